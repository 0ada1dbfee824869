/- Words for the laws' proofs (part 6): contracts of functions, and plain lemmas. -/
import Derived.ChangeSlices
import Derived.SizedLaws
import Derived.Test.YtcbomlmlindjdaaKb2
import Derived.Test.YtcbomlmlindjdaaKb3
import Derived.Test.YtcbomlmlindjdaaKb5
section
namespace Go.Proofs.Ytcbomlmlindjdaa
open Go.RowKit Go.Proofs.YtcbomlmlindjdaaW.PrintWords
set_option linter.unusedVariables false
set_option linter.unusedSimpArgs false
theorem badNms_small : ∀ v, v ∈ badNms → v.size ≤ 13 := by
  intro v hv
  simp only [badNms, List.mem_cons, List.not_mem_nil, or_false] at hv
  rcases hv with h | h | h | h | h <;> (rw [h]; decide)
theorem mutate_ex {s : List Int} (hs : Bts s) : ∀ x : Fm, x.tot ≤ 200000 → ∀ p : Nat, p + 3 * x.size ≤ 1000000 → ∃ (y : Fm) (q : Nat), q ≤ p + 3 * x.size ∧ y.tot ≤ x.tot + 14 ∧ y.size = x.size ∧ MutOk s x p y q := by
  intro x
  induction x using Fm.ind with
  | h x ih =>
  intro ht p hp
  have hsz := x.size_eq
  have htt := x.tot_eq
  have leaf : ∀ p1 : Nat, p1 + 2 ≤ 1000000 → ((x.f4 = [] ∧ p1 = p) ∨ (x.f4 ≠ [] ∧ p1 = p + 1 ∧ ∃ v : Int, v ≤ 0 ∧ Ev (fun k => Q.spec_l15Rd_pick.f k s (p : Int) 2) (v, ((p + 1 : Nat) : Int)))) → ∃ (y : Fm) (q : Nat), q ≤ p1 + 2 ∧ y.tot ≤ x.tot + 14 ∧ y.size = x.size ∧ MutOk s x p y q := by
    intro p1 hp1 hpre
    obtain ⟨c, hc, e1⟩ := ev_pick hs p1 (by omega) 14 (by omega)
    obtain ⟨n0, _, e2⟩ := ev_num hs (p1 + 1) (by omega) [0, 4, 1, 3] (by simp) (by simp)
    obtain ⟨n1, hn1, e3⟩ := ev_of hs (p1 + 1) (by omega) badNms (by simp) (by simp)
    obtain ⟨n2, _, e4⟩ := ev_num hs (p1 + 1) (by omega) [1000, -1, 5] (by simp) (by simp)
    obtain ⟨n3, _, e5⟩ := ev_num hs (p1 + 1) (by omega) [0, 100, 1, 50] (by simp) (by simp)
    have hb := badNms_small n1 hn1
    by_cases c0 : c = 0
    · exact ⟨⟨n0, x.f1, x.f2, x.f3, x.f4⟩, p1 + 2, by omega, by rw [Fm.tot_eq]; dsimp only; omega, by rw [Fm.size_eq]; dsimp only; omega, mut_stop x p p1 _ c _ ht hpre e1 (fun _ => ⟨n0, e2, rfl, rfl⟩) (fun h => by omega) (fun h => by omega) (fun h => by omega) (fun h => absurd c0 h)⟩
    by_cases c1 : c = 1
    · exact ⟨⟨x.f0, n1, x.f2, x.f3, x.f4⟩, p1 + 2, by omega, by rw [Fm.tot_eq]; dsimp only; omega, by rw [Fm.size_eq]; dsimp only; omega, mut_stop x p p1 _ c _ ht hpre e1 (fun h => absurd h c0) (fun _ => ⟨n1, e3, rfl, rfl⟩) (fun h => by omega) (fun h => by omega) (fun _ h => absurd c1 h)⟩
    by_cases c2 : c = 2
    · exact ⟨⟨x.f0, x.f1, n2, x.f3, x.f4⟩, p1 + 2, by omega, by rw [Fm.tot_eq]; dsimp only; omega, by rw [Fm.size_eq]; dsimp only; omega, mut_stop x p p1 _ c _ ht hpre e1 (fun h => absurd h c0) (fun h => absurd h c1) (fun _ => ⟨n2, e4, rfl, rfl⟩) (fun h => by omega) (fun _ _ h => absurd c2 h)⟩
    by_cases c3 : c = 3
    · exact ⟨⟨x.f0, x.f1, x.f2, x.f3 ++ [n3], x.f4⟩, p1 + 2, by omega, by rw [Fm.tot_eq]; simp only [List.length_append, List.length_cons, List.length_nil]; omega, by rw [Fm.size_eq]; dsimp only; omega, mut_stop x p p1 _ c _ ht hpre e1 (fun h => absurd h c0) (fun h => absurd h c1) (fun h => absurd h c2) (fun _ => ⟨n3, e5, rfl, rfl⟩) (fun _ _ _ h => absurd c3 h)⟩
    · exact ⟨⟨x.f0, x.f1, x.f2, x.f3, x.f4⟩, p1 + 1, by omega, by rw [Fm.tot_eq]; dsimp only; omega, by rw [Fm.size_eq]; dsimp only; omega, mut_stop x p p1 _ c _ ht hpre e1 (fun h => absurd h c0) (fun h => absurd h c1) (fun h => absurd h c2) (fun h => absurd h c3) (fun _ _ _ _ => ⟨rfl, rfl⟩)⟩
  by_cases h0 : x.f4 = []
  · obtain ⟨y, q, g1, g2, g3, g4⟩ := leaf p (by omega) (.inl ⟨h0, rfl⟩)
    exact ⟨y, q, by omega, g2, g3, g4⟩
  · obtain ⟨v, hv, e1⟩ := ev_pick hs p (by omega) 2 (by omega)
    have hl := List.length_pos_iff.2 h0
    have hone : 1 ≤ sizes x.f4 := by
      have := sizes_mem (List.getElem_mem hl)
      have := (x.f4[0]'hl).size_eq
      omega
    by_cases hz : 0 < v
    · obtain ⟨n, hn, e2⟩ := ev_pick hs (p + 1) (by omega) (x.f4.length : Int) (by have := len_totL x.f4; omega)
      obtain ⟨m, rfl⟩ := Int.eq_ofNat_of_zero_le (hn (by omega)).1
      have hm : m < x.f4.length := by have := (hn (by omega)).2; omega
      have hk := totL_mem (List.getElem_mem hm)
      have hsm := sizes_mem (List.getElem_mem hm)
      obtain ⟨y, q, g1, g2, g3, g4⟩ := ih _ (List.getElem_mem hm) (by omega) (p + 2) (by omega)
      have hst := set_totL x.f4 m hm y
      have hss := set_sizes x.f4 m hm y
      have hse : x.f4.set m y = x.f4.take m ++ y :: x.f4.drop (m + 1) := List.set_eq_take_append_cons_drop.trans (by rw [if_pos hm])
      rw [hse] at hst hss
      exact ⟨⟨x.f0, x.f1, x.f2, x.f3, x.f4.take m ++ y :: x.f4.drop (m + 1)⟩, q, by omega, by rw [Fm.tot_eq]; dsimp only; omega, by rw [Fm.size_eq]; dsimp only; omega, mut_rec x p q v m y ht hm hz e1 e2 g4⟩
    · obtain ⟨y, q, g1, g2, g3, g4⟩ := leaf (p + 1) (by omega) (.inr ⟨h0, rfl, v, by omega, e1⟩)
      exact ⟨y, q, by omega, g2, g3, g4⟩
end Go.Proofs.Ytcbomlmlindjdaa
end
section
namespace Go.Proofs.Ytcbomlmlindjdaa
open Go.RowKit Go.Proofs.YtcbomlmlindjdaaW.PrintWords Go.Proofs.Ytcbomlmlindjdaa.Q
set_option linter.unusedVariables false
end Go.Proofs.Ytcbomlmlindjdaa
end
section
namespace Go.Proofs.Ytcbomlmlindjdaa
open Go.RowKit Go.Proofs.YtcbomlmlindjdaaW.PrintWords Go.Proofs.YtcbomlmlindjdaaW.PrintLast Go.Proofs.YtcbomlmlindjdaaW.PrintMore
set_option linter.unusedVariables false
set_option linter.unusedSimpArgs false
@[reducible] def fmV (x : Fm) (A3 : Option Addr) (c3 : Nat) (A4 : Option Addr) (c4 : Nat) : Array Value := #[.int .i64 x.f0, .string x.f1, .int .i64 x.f2, .slice A3 x.f3.length c3, .slice A4 x.f4.length c4]
/-- A form is handed back. -/
def GetF (w : World) (x : Fm) (e : Ending) (w' : World) : Prop := ∃ A3 c3 A4 c4, e = .returned (.agg #[.int .i64 x.f0, .string x.f1, .int .i64 x.f2, .slice A3 x.f3.length c3, .slice A4 x.f4.length c4]) ∧ FmIn w' x A3 c3 A4 c4 ∧ Below w.heap.size w w'
/-- A form and another value are handed back. -/
def GetFV (w : World) (x : Fm) (v : Value) (e : Ending) (w' : World) : Prop := ∃ A3 c3 A4 c4, e = .returned (.tuple #[.agg #[.int .i64 x.f0, .string x.f1, .int .i64 x.f2, .slice A3 x.f3.length c3, .slice A4 x.f4.length c4], v]) ∧ FmIn w' x A3 c3 A4 c4 ∧ Below w.heap.size w w'
end Go.Proofs.Ytcbomlmlindjdaa
end
section
namespace Go.Proofs.Ytcbomlmlindjdaa
open Go.RowKit Go.Proofs.YtcbomlmlindjdaaW.PrintWords Go.Proofs.YtcbomlmlindjdaaW.PrintLast Go.Proofs.YtcbomlmlindjdaaW.PrintMore
set_option linter.unusedVariables false
set_option linter.unusedSimpArgs false
/-- The form x reads in w, and in every world in which the blocks from lo on stand as_ in w. -/
structure FmS (lo : Nat) (w : World) (x : Fm) (A3 : Option Addr) (c3 : Nat) (A4 : Option Addr) (c4 : Nat) : Prop where mk ::
  out : ∀ W : World, (∀ b, lo ≤ b → b < w.heap.size → W.heap[b]? = w.heap[b]?) → FmIn W x A3 c3 A4 c4
theorem FmS.now {lo : Nat} {w : World} {x : Fm} {A3 : Option Addr} {c3 : Nat} {A4 : Option Addr} {c4 : Nat} (h : FmS lo w x A3 c3 A4 c4) : FmIn w x A3 c3 A4 c4 := h.out w (fun _ _ _ => rfl)
theorem FmS.move {lo : Nat} {w W : World} {x : Fm} {A3 : Option Addr} {c3 : Nat} {A4 : Option Addr} {c4 : Nat} (h : FmS lo w x A3 c3 A4 c4) (hs : w.heap.size ≤ W.heap.size) (hm : ∀ b, lo ≤ b → b < w.heap.size → W.heap[b]? = w.heap[b]?) : FmS lo W x A3 c3 A4 c4 :=
  ⟨fun W' h' => h.out W' (fun b h1 h2 => (h' b h1 (Nat.lt_of_lt_of_le h2 hs)).trans (hm b h1 h2))⟩
theorem FmS.later {lo : Nat} {w W : World} {x : Fm} {A3 : Option Addr} {c3 : Nat} {A4 : Option Addr} {c4 : Nat} (h : FmS lo w x A3 c3 A4 c4) (hb : Below w.heap.size w W) : FmS lo W x A3 c3 A4 c4 := h.move hb.size (fun b _ hlt => hb.block b hlt)
theorem FmS.keep {lo g : Nat} {w W : World} {x : Fm} {A3 : Option Addr} {c3 : Nat} {A4 : Option Addr} {c4 : Nat} (h : FmS lo w x A3 c3 A4 c4) (hk : KeepBut w W g none) (hg : g < lo) : FmS lo W x A3 c3 A4 c4 := h.move hk.1 (fun b h1 hlt => hk.2 b hlt (by omega) (by simp))
theorem FmS.low {lo lo' : Nat} {w : World} {x : Fm} {A3 : Option Addr} {c3 : Nat} {A4 : Option Addr} {c4 : Nat} (h : FmS lo w x A3 c3 A4 c4) (hl : lo' ≤ lo) : FmS lo' w x A3 c3 A4 c4 := ⟨fun W hW => h.out W (fun b h1 h2 => hW b (Nat.le_trans hl h1) h2)⟩
/-- A form and another value are handed back; the form lies in new memory. -/
def GetFS (w : World) (x : Fm) (v : Value) (e : Ending) (w' : World) : Prop := ∃ A3 c3 A4 c4, e = .returned (.tuple #[.agg #[.int .i64 x.f0, .string x.f1, .int .i64 x.f2, .slice A3 x.f3.length c3, .slice A4 x.f4.length c4], v]) ∧ FmS w.heap.size w' x A3 c3 A4 c4 ∧ Below w.heap.size w w'
theorem GetFS.V {w : World} {x : Fm} {v : Value} {e : Ending} {w' : World} (h : GetFS w x v e w') : GetFV w x v e w' := by
  obtain ⟨A3, c3, A4, c4, he, hs, hb⟩ := h
  exact ⟨A3, c3, A4, c4, he, hs.now, hb⟩
theorem NewF.toS {B : Nat} {w : World} {x : Fm} {v3 v4 : Value} (h : NewF B w x v3 v4) : ∃ A3 c3 A4 c4, v3 = .slice A3 x.f3.length c3 ∧ v4 = .slice A4 x.f4.length c4 ∧ FmS B w x A3 c3 A4 c4 := by
  obtain ⟨fp, ht, _, hge⟩ := h
  obtain ⟨A3, c3, A4, c4, rfl, rfl, _⟩ := ht.In
  refine ⟨A3, c3, A4, c4, rfl, rfl, ⟨fun W hW => ?_⟩⟩
  obtain ⟨B3, d3, B4, d4, e3, e4, hi⟩ := (ht.move (w1 := W) x (fun b hb => hW b (hge b hb) (ht.lt x b hb))).In
  injection e3 with a1 _ a2
  injection e4 with a3 _ a4
  subst a1 a2 a3 a4
  exact hi
theorem Dr.ltW {w0 w W : World} {g : Nat} {s : List Int} {q : Int} (h : Dr w0 w g s q W) : g < W.heap.size := Nat.lt_of_lt_of_le h.lt h.size
/-- A form is drawn: it lies in new memory, and the source stands at q. -/
def DrGet (w0 : World) (g : Nat) (s : List Int) (q : Nat) (y : Fm) (w : World) (e : Ending) (w' : World) : Prop :=
  ∃ A3 c3 A4 c4, e = .returned (.agg #[.int .i64 y.f0, .string y.f1, .int .i64 y.f2, .slice A3 y.f3.length c3, .slice A4 y.f4.length c4]) ∧ FmS w.heap.size w' y A3 c3 A4 c4 ∧ IsRd w0 w' g s (q : Int) ∧ Below w0.heap.size w0 w' ∧ KeepBut w w' g none
theorem DrPost.get {w0 : World} {g : Nat} {s : List Int} {q : Nat} {y : Fm} {w : World} {e : Ending} {w' : World} (h : DrPost w0 g s (q : Int) y w e w') : DrGet w0 g s q y w e w' := by
  obtain ⟨v3, v4, rfl, hn, hi, hb, hk⟩ := h
  obtain ⟨A3, c3, A4, c4, rfl, rfl, hs⟩ := hn.toS
  exact ⟨A3, c3, A4, c4, rfl, hs, hi, hb, hk⟩
/-- num over a literal in its own block. -/
theorem num_lit {s : List Int} {l : List Int} {cs : Array Value} (hcs : cs.toList = l.map (Value.int .i64)) (hl : l.length ≤ 1000) {p : Nat} {n : Int} (h : Ev (fun k => Q.spec_l15Rd_num.f k s (p : Int) l) (n, ((p + 1 : Nat) : Int))) (g : Nat) (w0 W : World) (hi : IsRd w0 W g s (p : Int)) (hb : Below w0.heap.size w0 W) :
    Calls Try.prog 56 #[.pointer (some ⟨g, 0, none⟩), .slice (some ⟨W.heap.size, 0, none⟩) l.length l.length] (W.alloc (.cells cs 3 (0, 0))) (fun e w' => e = .returned (.int .i64 n) ∧ IsRd w0 w' g s ((p + 1 : Nat) : Int) ∧ Below w0.heap.size w0 w' ∧ KeepBut W w' g none) := by
  obtain ⟨k, hk⟩ := h.rounds
  have hlt := Q.IsS78.lt hi
  refine (Q.spec_l15Rd_num.calls k g s _ (some ⟨W.heap.size, 0, none⟩) _ l n _ w0 _ (Q.IsS78.below hi (below_new _ _)) (below_step hb (below_new _ _)) (reads_block (blk_new W _) hl hcs) (Nat.le_refl _) (fun ad e _ => by cases e; show W.heap.size ≠ g; omega) hk).mono ?_
  rintro e w' ⟨rfl, h1, h2, h3⟩
  exact ⟨rfl, h1, h2, (KeepBut.of_below (below_new W _) g none).trans h3 (.inl rfl)⟩
/-- of over a literal in its own block. -/
theorem of_lit {s : List Int} {l : List ByteArray} {cs : Array Value} (hcs : cs.toList = l.map Value.string) (hl : l.length ≤ 1000) {p : Nat} {n : ByteArray} (h : Ev (fun k => Q.spec_l15Rd_of.f k s (p : Int) l) (n, ((p + 1 : Nat) : Int))) (g : Nat) (w0 W : World) (hi : IsRd w0 W g s (p : Int)) (hb : Below w0.heap.size w0 W) :
    Calls Try.prog 66 #[.pointer (some ⟨g, 0, none⟩), .slice (some ⟨W.heap.size, 0, none⟩) l.length l.length] (W.alloc (.cells cs 9 (0, 0))) (fun e w' => e = .returned (.string n) ∧ IsRd w0 w' g s ((p + 1 : Nat) : Int) ∧ Below w0.heap.size w0 w' ∧ KeepBut W w' g none) := by
  obtain ⟨k, hk⟩ := h.rounds
  have hlt := Q.IsS78.lt hi
  refine (Q.spec_l15Rd_of.calls k g s _ (some ⟨W.heap.size, 0, none⟩) _ l n _ w0 _ (Q.IsS78.below hi (below_new _ _)) (below_step hb (below_new _ _)) (reads_strs (blk_new W _) hl hcs) (Nat.le_refl _) (fun ad e _ => by cases e; show W.heap.size ≠ g; omega) hk).mono ?_
  rintro e w' ⟨rfl, h1, h2, h3⟩
  exact ⟨rfl, h1, h2, (KeepBut.of_below (below_new W _) g none).trans h3 (.inl rfl)⟩
/-- A pick. -/
theorem pick_at {s : List Int} {p : Nat} {n v : Int} (h : Ev (fun k => Q.spec_l15Rd_pick.f k s (p : Int) n) (v, ((p + 1 : Nat) : Int))) (g : Nat) (w0 W : World) (hi : IsRd w0 W g s (p : Int)) (hb : Below w0.heap.size w0 W) :
    Calls Try.prog 67 #[.pointer (some ⟨g, 0, none⟩), .int .i64 n] W (fun e w' => e = .returned (.int .i64 v) ∧ IsRd w0 w' g s ((p + 1 : Nat) : Int) ∧ Below w0.heap.size w0 w' ∧ KeepBut W w' g none) := by
  obtain ⟨k, hk⟩ := h.rounds
  refine (Q.spec_l15Rd_pick.calls k g s _ n v _ w0 _ hi hb hk).mono ?_
  rintro e w' ⟨rfl, h1, h2, h3⟩
  exact ⟨rfl, h1, h2, h3⟩
/-- The source is opened. -/
theorem open_at (l : List Int) (hl : ∀ z, z ∈ l → 0 ≤ z ∧ z < 256) : ∃ s, Bts s ∧ ∀ (A : Option Addr) (c : Nat) (w0 w : World), Below w0.heap.size w0 w → (Kd.int .u8).C w0 A l.length l → l.length ≤ c →
    Calls Try.prog 39 #[.slice A l.length c] w (fun e w' => ∃ g, e = .returned (.pointer (some ⟨g, 0, none⟩)) ∧ IsRd w0 w' g s ((0 : Nat) : Int) ∧ Below w0.heap.size w0 w' ∧ Below w.heap.size w w') := by
  obtain ⟨s, hs, he⟩ := ev_open l hl
  refine ⟨s, hs, fun A c w0 w hb hr hc => ?_⟩
  exact (Q.spec_l15Open.calls A c l s 0 w0 w hb hr hc he).mono fun e w' h => h
end Go.Proofs.Ytcbomlmlindjdaa
end
section
namespace Go.Proofs.Ytcbomlmlindjdaa
open Go.RowKit Go.Proofs.YtcbomlmlindjdaaW.PrintWords Go.Proofs.YtcbomlmlindjdaaW.PrintLast Go.Proofs.YtcbomlmlindjdaaW.PrintMore
set_option linter.unusedVariables false
set_option linter.unusedSimpArgs false
/-- Two forms are handed back. -/
def GetTwo (w : World) (x y : Fm) (e : Ending) (w' : World) : Prop := ∃ A3 c3 A4 c4 B3 d3 B4 d4, e = .returned (.tuple #[.agg #[.int .i64 x.f0, .string x.f1, .int .i64 x.f2, .slice A3 x.f3.length c3, .slice A4 x.f4.length c4], .agg #[.int .i64 y.f0, .string y.f1, .int .i64 y.f2, .slice B3 y.f3.length d3, .slice B4 y.f4.length d4]]) ∧ FmIn w' x A3 c3 A4 c4 ∧ FmIn w' y B3 d3 B4 d4 ∧ Below w.heap.size w w'
/-- The form of a name without scopes. -/
abbrev lnm (n : ByteArray) : Fm := ⟨1, n, 0, [], []⟩
theorem lnm_in (n : ByteArray) (w : World) : FmIn w (lnm n) none 0 none 0 := ⟨Nat.le_refl 0, Kd.C_nil kI w, Nat.le_refl 0, Kd.C_nil kF w⟩
theorem l1Name_any (n : ByteArray) (w : World) : Calls Try.prog 65 #[.string n] w (fun e w' => e = .returned (.agg #[.int .i64 1, .string n, .int .i64 0, .slice none 0 0, .slice none 0 0]) ∧ Below w.heap.size w w') := by
  have k0 := blk_new w (.cells #[.int .i64 1, .string n, .int .i64 0, .slice none 0 0, .slice none 0 0] 30)
  obtain ⟨q0, q1, q2, q3, q4⟩ := fm_cells k0
  have HB := Lib.hid (below_new w (.cells #[.int .i64 1, .string n, .int .i64 0, .slice none 0 0, .slice none 0 0] 30))
  clear k0
  go_enter Try.func65, Try.ntmps65
  go_wp2_with fail
  refine bodyPost_ret (v := .agg #[.int .i64 1, .string n, .int .i64 0, .slice none 0 0, .slice none 0 0]) (by simp [results, Try.results65, go_sem, q0, q1, q2, q3, q4]) rfl ?_
  exact ⟨rfl, HB.out⟩
end Go.Proofs.Ytcbomlmlindjdaa
end
section
namespace Go.Proofs.Ytcbomlmlindjdaa
open Go.RowKit Go.Proofs.YtcbomlmlindjdaaW.PrintWords Go.Proofs.YtcbomlmlindjdaaW.PrintLast Go.Proofs.YtcbomlmlindjdaaW.PrintMore
set_option linter.unusedVariables false
set_option linter.unusedSimpArgs false
/-- The list reads in w, and in every world in which the blocks from lo on stand as_ in w. -/
structure BdS (lo : Nat) (w : World) (l : List Bd) (A : Option Addr) (c : Nat) : Prop where mk ::
  le : l.length ≤ c
  out : ∀ W : World, (∀ b, lo ≤ b → b < w.heap.size → W.heap[b]? = w.heap[b]?) → kB.C W A l.length l
theorem BdS.now {lo : Nat} {w : World} {l : List Bd} {A : Option Addr} {c : Nat} (h : BdS lo w l A c) : kB.C w A l.length l := h.out w (fun _ _ _ => rfl)
theorem BdS.move {lo : Nat} {w W : World} {l : List Bd} {A : Option Addr} {c : Nat} (h : BdS lo w l A c) (hs : w.heap.size ≤ W.heap.size) (hm : ∀ b, lo ≤ b → b < w.heap.size → W.heap[b]? = w.heap[b]?) : BdS lo W l A c :=
  ⟨h.le, fun W' h' => h.out W' (fun b h1 h2 => (h' b h1 (Nat.lt_of_lt_of_le h2 hs)).trans (hm b h1 h2))⟩
theorem BdS.later {lo : Nat} {w W : World} {l : List Bd} {A : Option Addr} {c : Nat} (h : BdS lo w l A c) (hb : Below w.heap.size w W) : BdS lo W l A c := h.move hb.size (fun b _ hlt => hb.block b hlt)
theorem BdS.keep {lo g : Nat} {w W : World} {l : List Bd} {A : Option Addr} {c : Nat} (h : BdS lo w l A c) (hk : KeepBut w W g none) (hg : g < lo) : BdS lo W l A c := h.move hk.1 (fun b h1 hlt => hk.2 b hlt (by omega) (by simp))
theorem BdS.low {lo lo' : Nat} {w : World} {l : List Bd} {A : Option Addr} {c : Nat} (h : BdS lo w l A c) (hl : lo' ≤ lo) : BdS lo' w l A c := ⟨h.le, fun W hW => h.out W (fun b h1 h2 => hW b (Nat.le_trans hl h1) h2)⟩
theorem BdL.repsC {w : World} : ∀ (l : List Bd) {inner : List Value} {fp : List Nat}, BdL w l inner fp → Reps (kB.K w) 3 l inner := by
  intro l
  induction l with
  | nil => intro inner fp h; obtain ⟨rfl, rfl⟩ := h; exact Reps.none _ _
  | cons b l ih =>
    intro inner fp h
    obtain ⟨v1, rest, fs, rfl, rfl, h1, hs⟩ := h
    obtain ⟨A, c, rfl, hc, hr⟩ := own_C h1
    have hr2 := ih hs
    refine ⟨by rw [List.length_append, hr2.1]; simp; omega, fun j p hj => ?_⟩
    cases j with
    | zero =>
      have : b = p := by simpa using hj
      subst this
      simpa using Q.k36_mk w b hc hr
    | succ j =>
      have h2 := hr2.2 j p (by simpa using hj)
      rw [show (j + 1) * 3 = 3 + j * 3 from by omega, ← List.drop_drop]
      simpa using h2
theorem BdL.reads {w : World} {l : List Bd} {inner : List Value} {fp : List Nat} {v : Value} (h : BdL w l inner fp) (h4 : w.ownsRow 0 36 3 v l.length inner) : ∃ A c, v = .slice A l.length c ∧ l.length ≤ c ∧ kB.C w A l.length l := by
  obtain ⟨A4, c4, e, r4⟩ := own_reads_row (R := kB.K w) h4 (h.repsC l) rfl
  subst e
  exact ⟨A4, c4, rfl, own_le h4, r4⟩
theorem BdS.of {B : Nat} {w : World} {l : List Bd} {v : Value} {inner : List Value} {fp : List Nat} (ho : w.ownsRow 0 36 3 v l.length inner) (ht : BdL w l inner fp) (hge : ∀ b, b ∈ obs v ++ fp → B ≤ b) : ∃ A c, v = .slice A l.length c ∧ BdS B w l A c := by
  have hlt := NewB.lt (B := B) ho ht
  obtain ⟨A, c, rfl, hc, _⟩ := ht.reads ho
  refine ⟨A, c, rfl, hc, fun W hW => ?_⟩
  obtain ⟨A', c', e, _, hr⟩ := (ht.move (w1 := W) (fun b hb => hW b (hge b (List.mem_append_right _ hb)) (hlt b (List.mem_append_right _ hb)))).reads (own_move (w1 := W) ho (fun b hb => hW b (hge b (List.mem_append_left _ (obs_mem.2 hb))) (hlt b (List.mem_append_left _ (obs_mem.2 hb)))))
  injection e with e1 _ e2
  subst e1
  exact hr
theorem NewB.toS {B : Nat} {w : World} {l : List Bd} {v : Value} (h : NewB B w l v) : ∃ A c, v = .slice A l.length c ∧ BdS B w l A c := by
  obtain ⟨inner, fp, ho, ht, hn, hge⟩ := h
  exact BdS.of ho ht hge
theorem NewB.toS' {B : Nat} {w : World} {l : List Bd} {A : Option Addr} {n c : Nat} (h : NewB B w l (.slice A n c)) : n = l.length ∧ BdS B w l A c := by
  obtain ⟨A', c', e, hs⟩ := h.toS
  injection e with e1 e2 e3
  subst e1 e2 e3
  exact ⟨rfl, hs⟩
theorem Dr.b0 {w0 w W : World} {g : Nat} {s : List Int} {q : Int} (h : Dr w0 w g s q W) : w0.heap.size ≤ w.heap.size := by have := Q.IsS78.ge h.is; have := h.lt; omega
theorem own_base_of {w : World} {B e sz n : Nat} {v : Value} {xs : List Value} (h : w.ownsRow B e sz v n xs) : ∀ k, v.ownBlock = some k → B ≤ k := by
  intro k hk
  rcases h with ⟨_, ⟨rfl, _⟩ | ⟨g, cap, cur, rfl, hg, _⟩⟩
  · cases hk
  · have : g = k := by simpa [Value.ownBlock] using hk
    omega
/-- A list of few bindings with few scopes and short names. -/
def SmD (n : Nat) (l : List Bd) : Prop := l.length ≤ n ∧ ∀ b, b ∈ l → b.f0.size ≤ n ∧ b.f1.length ≤ n
theorem SmD.B {n : Nat} {l : List Bd} (h : SmD n l) (hn : n ≤ 2000000) : SmB l := ⟨by have := h.1; omega, fun b hb => by have := h.2 b hb; omega⟩
theorem SmD.more {n m : Nat} {l : List Bd} (h : SmD n l) (hn : n ≤ m) : SmD m l := ⟨by have := h.1; omega, fun b hb => by have := h.2 b hb; omega⟩
theorem bdsOk_small {l : List Bd} (h : BdsOk l) : SmD 100 l := by
  obtain ⟨h1, h2, _⟩ := bdsOk_iff.1 h
  refine ⟨by omega, fun b hb => ?_⟩
  have hk := h2 b hb
  exact ⟨by have := nmOk_size hk.1; omega, by have := hk.2.1.1; omega⟩
theorem addBindR_okD {l : List Bd} {x : Fm} {id : Int} (h : (addBindR l x id).2 = true) : BdsOk (addBindR l x id).1 := by
  unfold addBindR at h ⊢
  split at h
  · rename_i h1
    rw [if_pos h1]
    split at h
    · rename_i h2
      rw [if_pos h2]; exact pB_iff.1 h2
    · cases h
  · cases h
/-- A list of bindings is handed back by a function that draws: it lies in new memory, and the source stands at q. -/
def DrB (w0 : World) (g : Nat) (s : List Int) (q : Nat) (l : List Bd) (w : World) (e : Ending) (w' : World) : Prop :=
  ∃ A c, e = .returned (.slice A l.length c) ∧ BdS w.heap.size w' l A c ∧ IsRd w0 w' g s (q : Int) ∧ Below w0.heap.size w0 w' ∧ KeepBut w w' g none
/-- num over a literal whose block's number is told otherwise. -/
theorem num_litB {s : List Int} {l : List Int} {cs : Array Value} (hcs : cs.toList = l.map (Value.int .i64)) (hl : l.length ≤ 1000) {p : Nat} {n : Int} (h : Ev (fun k => Q.spec_l15Rd_num.f k s (p : Int) l) (n, ((p + 1 : Nat) : Int))) (g : Nat) (w0 W : World) {B : Nat} (hB : W.heap.size = B) (hi : IsRd w0 W g s (p : Int)) (hb : Below w0.heap.size w0 W) :
    Calls Try.prog 56 #[.pointer (some ⟨g, 0, none⟩), .slice (some ⟨B, 0, none⟩) l.length l.length] (W.alloc (.cells cs 3 (0, 0))) (fun e w' => e = .returned (.int .i64 n) ∧ IsRd w0 w' g s ((p + 1 : Nat) : Int) ∧ Below w0.heap.size w0 w' ∧ KeepBut W w' g none) := by
  subst hB
  exact num_lit hcs hl h g w0 W hi hb
abbrev nm3 : List ByteArray := [⟨#[120]⟩, ⟨#[120]⟩, ⟨#[121]⟩]
theorem nm3_small {n : ByteArray} (h : n ∈ nm3) : n.size ≤ 13 := by
  simp only [List.mem_cons, List.not_mem_nil, or_false] at h
  rcases h with rfl | rfl | rfl <;> decide
noncomputable def nextB (l : List Bd) (y : Fm) : List Bd := if (addBindR l y (1 + (l.length : Int))).2 = true then (addBindR l y (1 + (l.length : Int))).1 else l
structure RoundB (s : List Int) (l : List Bd) (p : Nat) (l' : List Bd) (q : Nat) (nm : ByteArray) (y : Fm) : Prop where
  of_ : Ev (fun k => Q.spec_l15Rd_of.f k s (p : Int) nm3) (nm, ((p + 1 : Nat) : Int))
  dress : DressOk s (lnm nm) (p + 1) y q
  tot : y.tot ≤ 1000
  next : l' = nextB l y
theorem draw_seq {s : List Int} (hs : Bts s) : ∀ (n p : Nat) (l : List Bd), p + 2 * n ≤ 900000 → SmD 100 l → ∃ (ls : Nat → List Bd) (ps : Nat → Nat) (nms : Nat → ByteArray) (ys : Nat → Fm), ls 0 = l ∧ ps 0 = p ∧ ps n ≤ p + 2 * n ∧ (∀ j, j ≤ n → SmD 100 (ls j)) ∧ ∀ j, j < n → RoundB s (ls j) (ps j) (ls (j + 1)) (ps (j + 1)) (nms j) (ys j)
  | 0, p, l, hp, hl => ⟨fun _ => l, fun _ => p, fun _ => ⟨#[]⟩, fun _ => lnm ⟨#[]⟩, rfl, rfl, by show p ≤ _; omega, fun _ _ => hl, fun j hj => absurd hj (Nat.not_lt_zero _)⟩
  | n + 1, p, l, hp, hl => by
    obtain ⟨nm, hnm, e1⟩ := ev_of hs p (by omega) nm3 (by simp) (by simp)
    have n1 := nm3_small hnm
    have ht1 : (lnm nm).tot = nm.size + 0 + 0 := Fm.tot_eq _
    have hs1 : (lnm nm).size = 1 + 0 := Fm.size_eq _
    obtain ⟨y, q, a1, b1, _, _, c1⟩ := dress_ex hs (lnm nm) (by omega) (p + 1) (by omega)
    have hl2 : SmD 100 (nextB l y) := by
      unfold nextB
      split
      · rename_i h; exact bdsOk_small (addBindR_okD h)
      · exact hl
    obtain ⟨ls, ps, nms, ys, h1, h2, h3, h4, h5⟩ := draw_seq hs n q (nextB l y) (by omega) hl2
    refine ⟨fun j => match j with | 0 => l | j + 1 => ls j, fun j => match j with | 0 => p | j + 1 => ps j, fun j => match j with | 0 => nm | j + 1 => nms j, fun j => match j with | 0 => y | j + 1 => ys j, rfl, rfl, by simp only; omega, fun j hj => ?_, fun j hj => ?_⟩
    · cases j with
      | zero => exact hl
      | succ j => exact h4 j (by omega)
    · cases j with
      | zero => exact ⟨e1, by simpa [h2] using c1, (show y.tot ≤ 1000 by omega), by simpa using h1⟩
      | succ j => exact h5 j (by omega)
abbrev num7 : List Int := [3, 2, 5, 1, 0, 7]
theorem num7_le {n : Int} (h : n ∈ num7) : 0 ≤ n ∧ n ≤ 7 := by
  simp only [List.mem_cons, List.not_mem_nil, or_false] at h
  rcases h with rfl | rfl | rfl | rfl | rfl | rfl <;> omega
theorem kB_nil (w : World) (A : Option Addr) : kB.C w A ([] : List Bd).length [] := ⟨rfl, by simp, fun h => absurd h (Nat.lt_irrefl 0)⟩
def DrawBOk (s : List Int) (p : Nat) (l : List Bd) (q : Nat) : Prop := ∀ (g : Nat) (w0 w : World), IsRd w0 w g s (p : Int) → Below w0.heap.size w0 w → Calls Try.prog 41 #[.pointer (some ⟨g, 0, none⟩)] w (DrB w0 g s q l w)
set_option maxHeartbeats 4000000 in
set_option maxRecDepth 100000 in
theorem l3Draw_ex {s : List Int} (hs : Bts s) (p : Nat) (hp : p ≤ 800000) : ∃ (l : List Bd) (q : Nat), q ≤ p + 20 ∧ SmD 100 l ∧ DrawBOk s p l q := by
  obtain ⟨n0, hn0, e0⟩ := ev_num hs p (by omega) num7 (by simp) (by simp)
  have hn := num7_le hn0
  obtain ⟨n, rfl⟩ := Int.eq_ofNat_of_zero_le hn.1
  have hn7 : n ≤ 7 := by omega
  obtain ⟨ls, ps, nms, ys, h1, h2, h3, h4, h5⟩ := draw_seq hs n (p + 1) [] (by omega) ⟨by simp, by simp⟩
  refine ⟨ls n, ps n, by omega, h4 n (Nat.le_refl _), fun g w0 w hi hb => ?_⟩
  have HE := Lib.hid e0
  have HD0 := Lib.hid (Dr.new hi hb)
  have H1 := Lib.hid h1
  have H2 := Lib.hid h2
  have H4 := Lib.hid h4
  have H5 := Lib.hid h5
  clear e0 hi hb h1 h2 h3 h4 h5 hn0 hn hs
  go_enter Try.func41, Try.ntmps41
  go_wp2_with fail
  have HD := Lib.hid (HD0.out.later (below_new w (.cells #[] 36)))
  refine (num_litB (l := num7) rfl (by simp) HE.out g w0 (w.alloc (.cells #[] 36)) (B := w.heap.size + 1) (by simp) HD.out.is HD.out.b).mono ?_
  rintro e w1 ⟨rfl, hi, hb, hk⟩
  replace HD := Lib.hid (HD.out.call hi hb hk)
  have HW := Lib.hid (show w.heap.size ≤ w1.heap.size from HD.out.size)
  clear hi hb hk HE HD0
  go_wp2_with fail
  go_loopg [3, 4] n (fun kq v3 v4 w' => ∃ (j : Nat) (A : Option Addr) (c : Nat), j ≤ n ∧ n - j ≤ kq ∧ v3 = .slice A (ls j).length c ∧ v4 = .int .i64 ((n - j : Nat) : Int) ∧ Aside0 (BdS w.heap.size w' (ls j) A c) ∧ Aside0 (Dr w0 w g s (ps j : Int) w'))
  case atStart =>
    refine ⟨0, some ⟨w.heap.size, 0, none⟩, 0, Nat.zero_le _, by omega, ?_, by simp, ⟨?_⟩, ⟨?_⟩⟩
    · rw [H1.out]; rfl
    · rw [H1.out]; exact ⟨Nat.le_refl _, fun W _ => kB_nil W _⟩
    · rw [H2.out]; exact HD.out
  case round =>
    obtain ⟨j, A, c, hj, hg, rfl, rfl, HO, HR⟩ := hrel
    by_cases hlt : j < n
    · have R := Lib.hid (H5.out j hlt)
      have hsm := H4.out j hj
      have HS := Lib.hid hsm
      have hlj : (ls j).length ≤ 100 := hsm.1
      generalize hlse : ls j = l at HO HS R hlj
      generalize hpse : ps j = pj at HR R
      generalize hnms : nms j = nm at R
      generalize hyse : ys j = y at R
      have t1 : decide (((n - j : Nat) : Int) > 0) = true := decide_eq_true (by omega)
      have t2 : decide (0 < n - j) = true := decide_eq_true (by omega)
      clear hsm hlse hpse hnms hyse
      go_wp2_with fail
      refine (of_lit (l := nm3) rfl (by simp) R.out.of_ g w0 _ HR.out.is HR.out.b).mono ?_
      rintro e w2 ⟨rfl, hi, hb, hk⟩
      have HO2 := Lib.hid (HO.out.move hk.1 (fun b h1 h2 => hk.2 b h2 (by have := HR.out.lt; omega) (by simp)))
      have HR2 := Lib.hid (HR.out.call hi hb hk)
      clear hi hb hk HO HR
      go_wp2_with fail
      refine (l1Name_any nm w2).mono ?_
      rintro e w3 ⟨rfl, hb⟩
      replace HO2 := Lib.hid (HO2.out.later hb)
      replace HR2 := Lib.hid (HR2.out.later hb)
      clear hb
      go_wp2_with fail
      refine (R.out.dress g none 0 none 0 w0 w3 HR2.out.is HR2.out.b (lnm_in nm w3)).mono ?_
      intro e w4 hpst
      obtain ⟨Y_3, Y_c3, Y_4, Y_c4, rfl, hf, hi, hb, hk⟩ := hpst.get
      replace HO2 := Lib.hid (HO2.out.move hk.1 (fun b h1 h2 => hk.2 b h2 (by have := HR2.out.lt; omega) (by simp)))
      replace HR2 := Lib.hid (HR2.out.call hi hb hk)
      have HY := Lib.hid hf.now
      clear hf hi hb hk hpst
      go_wp2_with fail
      refine (specAddB_any l A c y Y_3 Y_c3 Y_4 Y_c4 (1 + (l.length : Int)) w4 HO2.out.now HO2.out.le HY.out (HS.out.B (by omega)) (by have := R.out.tot; omega)).mono ?_
      rintro e w5 ⟨v, rfl, hnb, hb⟩
      obtain ⟨B, d, rfl, hbs⟩ := hnb.toS
      have HB2 := Lib.hid (hbs.low (show w.heap.size ≤ w4.heap.size from HR2.out.size))
      replace HO2 := Lib.hid (HO2.out.later hb)
      replace HR2 := Lib.hid (HR2.out.later hb)
      clear hb hnb hbs
      have HN := Lib.hid R.out.next
      unfold nextB at HN
      have hsub : ((n - j : Nat) : Int) - 1 = ((n - (j + 1) : Nat) : Int) := by omega
      rcases hrb : addBindR l y (1 + (l.length : Int)) with ⟨r, b⟩
      rw [hrb] at HN HB2
      rcases b with _ | _
      · have HN2 := Lib.hid ((if_neg (by simp) : (if ((r, false) : List Bd × Bool).2 = true then ((r, false) : List Bd × Bool).1 else l) = l))
        rw [HN2.out] at HN
        clear HB2 hrb
        go_wp2_with fail
        go_roundg (n - (j + 1))
        case measure => omega
        case rel => exact ⟨j + 1, A, c, by omega, Nat.le_refl _, by rw [HN.out], by go_num, ⟨by rw [HN.out]; exact HO2.out⟩, ⟨HR2.out⟩⟩
      · have HN2 := Lib.hid ((if_pos (by simp) : (if ((r, true) : List Bd × Bool).2 = true then ((r, true) : List Bd × Bool).1 else l) = r))
        rw [HN2.out] at HN
        clear HO2 hrb
        go_wp2_with fail
        go_roundg (n - (j + 1))
        case measure => omega
        case rel => exact ⟨j + 1, B, d, by omega, Nat.le_refl _, by rw [HN.out], by go_num, ⟨by rw [HN.out]; exact HB2.out⟩, ⟨HR2.out⟩⟩
    · obtain rfl : j = n := by omega
      have t1 : decide (((j - j : Nat) : Int) > 0) = false := decide_eq_false (by omega)
      have t2 : decide (0 < j - j) = false := decide_eq_false (by omega)
      go_wp2_with fail
      go_ret
      exact ⟨A, c, rfl, HO.out, HR.out.is, HR.out.b, HR.out.kp⟩
end Go.Proofs.Ytcbomlmlindjdaa
end
section
namespace Go.Proofs.Ytcbomlmlindjdaa
open Go.RowKit Go.Proofs.YtcbomlmlindjdaaW.PrintWords Go.Proofs.YtcbomlmlindjdaaW.PrintLast Go.Proofs.YtcbomlmlindjdaaW.PrintMore
set_option linter.unusedVariables false
set_option linter.unusedSimpArgs false
end Go.Proofs.Ytcbomlmlindjdaa
end
section
namespace Go.Proofs.Ytcbomlmlindjdaa
open Go.RowKit Go.Proofs.YtcbomlmlindjdaaW.PrintWords Go.Proofs.YtcbomlmlindjdaaW.PrintLast Go.Proofs.YtcbomlmlindjdaaW.PrintMore
set_option linter.unusedVariables false
set_option linter.unusedSimpArgs false
theorem RetF.T {w : World} {x : Fm} {e : Ending} {w' : World} (h : RetF w x e w') : ∃ v3 v4, e = .returned (.agg #[.int .i64 x.f0, .string x.f1, .int .i64 x.f2, v3, v4]) ∧ tellsNew.T w.heap.size w' x v3 v4 ∧ Below w.heap.size w w' := h
end Go.Proofs.Ytcbomlmlindjdaa
end
section
namespace Go.Proofs.Ytcbomlmlindjdaa
open Go.RowKit Go.Proofs.YtcbomlmlindjdaaW.PrintWords Go.Proofs.YtcbomlmlindjdaaW.PrintLast Go.Proofs.YtcbomlmlindjdaaW.PrintMore
set_option linter.unusedVariables false
set_option linter.unusedSimpArgs false
theorem NewF.In {B : Nat} {w : World} {x : Fm} {v3 v4 : Value} (h : NewF B w x v3 v4) : ∃ A3 c3 A4 c4, v3 = .slice A3 x.f3.length c3 ∧ v4 = .slice A4 x.f4.length c4 ∧ FmIn w x A3 c3 A4 c4 := by
  obtain ⟨fp, ht, _, _⟩ := h
  exact ht.In
end Go.Proofs.Ytcbomlmlindjdaa
end
section
namespace Go.Proofs.Ytcbomlmlindjdaa
open Go.RowKit Go.Proofs.YtcbomlmlindjdaaW.PrintWords Go.Proofs.YtcbomlmlindjdaaW.PrintLast Go.Proofs.YtcbomlmlindjdaaW.PrintMore
set_option linter.unusedVariables false
set_option linter.unusedSimpArgs false
theorem byteOk {n : Int} (h : (Lit.int .u8 n).wf = true) : 0 ≤ n ∧ n < 256 := by
  simp only [Lit.wf, Bool.and_eq_true, decide_eq_true_eq] at h
  have e1 : IntKind.u8.min = 0 := by decide
  have e2 : IntKind.u8.max = 255 := by decide
  omega
/-- A row of numbers is handed back. -/
def GetIs (w : World) (r : List Int) (e : Ending) (w' : World) : Prop := ∃ A c, e = .returned (.slice A r.length c) ∧ r.length ≤ c ∧ kI.C w' A r.length r ∧ Below w.heap.size w w'
theorem RetI.gets {w : World} {r : List Int} {e : Ending} {w' : World} (h : RetI w r e w') : GetIs w r e w' := by
  obtain ⟨v, rfl, hR, hb⟩ := h
  obtain ⟨A, c, rfl, hc, hC⟩ := Kd.R_reads hR
  exact ⟨A, c, rfl, hc, hC, hb⟩
/-- Bindings and a Bool are handed back. -/
def GetBT (w : World) (r : List Bd) (b : Bool) (e : Ending) (w' : World) : Prop := ∃ A c, e = .returned (.tuple #[.slice A r.length c, .bool b]) ∧ r.length ≤ c ∧ kB.C w' A r.length r ∧ Below w.heap.size w w'
def GetII (w : World) (a b : Int) (e : Ending) (w' : World) : Prop := e = .returned (.tuple #[.int .i64 a, .int .i64 b]) ∧ Below w.heap.size w w'
section
variable {l r : List Bd} {x y : Fm} {f : List Int} {a b id : Int} {t : Bool}
theorem implBdV (h : pB (BdsOk l) = t) (hs : SmB l) (A : Option Addr) (c : Nat) (w : World) (hr : kB.C w A l.length l) (hc : l.length ≤ c) : Calls Try.prog 16 #[.slice A l.length c] w (Ret w (.bool t)) :=
  h ▸ implBinds_any l A c w hr hc (fun b hb => by have := (hs.2 b hb).1; omega)
theorem implFd (h : findR l x = (a, b)) (hs : SmB l) (ht : x.tot ≤ 1048576) (A : Option Addr) (c : Nat) (A3 : Option Addr) (c3 : Nat) (A4 : Option Addr) (c4 : Nat) (w : World) (hr : kB.C w A l.length l) (hc : l.length ≤ c) (hx : FmIn w x A3 c3 A4 c4) :
    Calls Try.prog 19 #[.slice A l.length c, .agg #[.int .i64 x.f0, .string x.f1, .int .i64 x.f2, .slice A3 x.f3.length c3, .slice A4 x.f4.length c4]] w (GetII w a b) := by
  have := implFind_any l A c x A3 c3 A4 c4 w hr hc hx hs ht
  rw [h] at this
  exact this
theorem implAb (h : addBindR l x id = (r, t)) (hs : SmB l) (ht : x.tot ≤ 1048576) (A : Option Addr) (c : Nat) (A3 : Option Addr) (c3 : Nat) (A4 : Option Addr) (c4 : Nat) (w : World) (hr : kB.C w A l.length l) (hc : l.length ≤ c) (hx : FmIn w x A3 c3 A4 c4) :
    Calls Try.prog 22 #[.slice A l.length c, .agg #[.int .i64 x.f0, .string x.f1, .int .i64 x.f2, .slice A3 x.f3.length c3, .slice A4 x.f4.length c4], .int .i64 id] w (GetBT w r t) := by
  refine (implAddB_any l A c x A3 c3 A4 c4 id w hr hc hx hs ht).mono ?_
  rw [h]
  rintro e w' ⟨v, rfl, hn, hb⟩
  obtain ⟨B, d, rfl, ho⟩ := hn.toS
  exact ⟨B, d, rfl, ho.le, ho.now, hb⟩
theorem specAb (h : addBindR l x id = (r, t)) (hs : SmB l) (ht : x.tot ≤ 1048576) (A : Option Addr) (c : Nat) (A3 : Option Addr) (c3 : Nat) (A4 : Option Addr) (c4 : Nat) (w : World) (hr : kB.C w A l.length l) (hc : l.length ≤ c) (hx : FmIn w x A3 c3 A4 c4) :
    Calls Try.prog 23 #[.slice A l.length c, .agg #[.int .i64 x.f0, .string x.f1, .int .i64 x.f2, .slice A3 x.f3.length c3, .slice A4 x.f4.length c4], .int .i64 id] w (GetBT w r t) := by
  refine (specAddB_any l A c x A3 c3 A4 c4 id w hr hc hx hs ht).mono ?_
  rw [h]
  rintro e w' ⟨v, rfl, hn, hb⟩
  obtain ⟨B, d, rfl, ho⟩ := hn.toS
  exact ⟨B, d, rfl, ho.le, ho.now, hb⟩
section
open Go.Proofs.Ytcbomlmlindjdaa.Q
theorem ev_mxI (xs : List Int) (hl : xs.length ≤ 2000000) : Ev (fun k => laws_mxInts.f k xs xs) true := by
  simp only [laws_mxInts.f]
  refine Ev.pos (by first | rfl | trivial) ?_
  obtain ⟨r, hp, hr⟩ := ev_loop (L := fun k (s : Int) => laws_mxInts.l0 k xs xs s) (fun i s => s = (i : Int)) xs.length (· = true) (by
    rintro i s hi rfl
    refine ⟨((i + 1 : Nat) : Int), rfl, fun r hr => ?_⟩
    refine Ev.step (fun k => by rw [laws_mxInts.l0]) ?_
    refine Ev.pos (by omega) ?_
    refine Ev.pos (by omega) ?_
    refine Ev.pos (by omega) ?_
    refine Ev.pos (by first | rfl | trivial) ?_
    rw [wr1 _ (by omega)]
    exact hr) (by
    rintro s rfl
    refine ⟨true, rfl, ?_⟩
    refine Ev.step (fun k => by rw [laws_mxInts.l0]) ?_
    refine Ev.neg (by omega) ?_
    exact Ev.now _) 0 rfl
  subst hp
  exact hr
theorem ev_mxB (l : List Bd) (hs : SmB l) : Ev (fun k => laws_mxBinds.f k l l) true := by
  have h0 := hs.1
  simp only [laws_mxBinds.f]
  refine Ev.pos (by first | rfl | trivial) ?_
  obtain ⟨r, hp, hr⟩ := ev_loop (L := fun k (s : Int) => laws_mxBinds.l0 k l l s) (fun i s => s = (i : Int)) l.length (· = true) (by
    rintro i s hi rfl
    refine ⟨((i + 1 : Nat) : Int), rfl, fun r hr => ?_⟩
    have h2 := (hs.2 _ (List.getElem_mem hi)).2
    refine Ev.step (fun k => by rw [laws_mxBinds.l0]) ?_
    refine Ev.pos (by omega) ?_
    refine Ev.pos (by omega) ?_
    refine Ev.pos (by omega) ?_
    rw [rdB hi]
    refine Ev.pos (by first | rfl | trivial) ?_
    refine Ev.pos (by first | rfl | trivial) ?_
    refine Ev.bind (ev_mxI _ h2) ?_
    refine Ev.pos (by first | rfl | trivial) ?_
    rw [wr1 _ (by omega)]
    exact hr) (by
    rintro s rfl
    refine ⟨true, rfl, ?_⟩
    refine Ev.step (fun k => by rw [laws_mxBinds.l0]) ?_
    refine Ev.neg (by omega) ?_
    exact Ev.now _) 0 rfl
  subst hp
  exact hr
end
theorem mxB (l : List Bd) (hs : SmB l) (A : Option Addr) (c : Nat) (B : Option Addr) (d : Nat) (w : World) (hr : kB.C w A l.length l) (hc : l.length ≤ c) (hr2 : kB.C w B l.length l) (hc2 : l.length ≤ d) : Calls Try.prog 24 #[.slice A l.length c, .slice B l.length d] w (Ret w (.bool true)) := by
  obtain ⟨k, hk⟩ := (ev_mxB l hs).rounds
  exact Q.laws_mxBinds.calls k A c l B d l _ w hr hc hr2 hc2 hk
end
/-- A row of bindings of the call's own; what its elements lead to is elder than w0's end. -/
structure RowB (w0 W : World) (l : List Bd) (v : Value) : Prop where
  own : ∃ inner, W.ownsRow w0.heap.size 36 3 v l.length inner ∧ Reps (kB.K w0) 3 l inner
  b : Below w0.heap.size w0 W
theorem RowB.C {w0 W : World} {l : List Bd} {v : Value} (h : RowB w0 W l v) : ∃ A c, v = .slice A l.length c ∧ l.length ≤ c ∧ kB.C W A l.length l := by
  obtain ⟨inner, ho, hr⟩ := h.own
  obtain ⟨A4, c4, e, r4⟩ := own_reads_row (R := kB.K W) ho (hr.imp_ (fun p c hp => kB.K_below h.b hp)) rfl
  subst e
  exact ⟨A4, c4, rfl, own_le ho, r4⟩
theorem RowB.nil {w0 W : World} {g : Nat} (hb : Below w0.heap.size w0 W) (hg : W.heap[g]? = some (.cells #[] 36 (0, 0))) (hge : w0.heap.size ≤ g) : RowB w0 W [] (.slice (some ⟨g, 0, none⟩) 0 0) :=
  ⟨⟨[], ⟨by simp, .inr ⟨g, 0, #[], rfl, hge, hg, Nat.le_refl _, Nat.zero_le _, by simp, by simp⟩⟩, Reps.none _ _⟩, hb⟩
theorem RowB.later {w0 W W1 : World} {l : List Bd} {v : Value} (h : RowB w0 W l v) (hb : Below W.heap.size W W1) : RowB w0 W1 l v := by
  obtain ⟨inner, ho, hr⟩ := h.own
  exact ⟨⟨inner, own_move ho (fun k hk => hb.block k (own_lt ho k hk)), hr⟩, below_step h.b hb⟩
theorem bdIn_K {w : World} {x : Bd} {A : Option Addr} {c : Nat} (h : BdIn w x A c) : kB.K w x [.string x.f0, .slice A x.f1.length c, .int .i64 x.f2] := Q.k36_mk w x h.l1 h.g1
theorem RowB.snoc {w0 w1 : World} {l : List Bd} {v1 : Value} {inner : List Value} {x : Bd} {A : Option Addr} {c : Nat} (hr : Reps (kB.K w0) 3 l inner) (hx : BdIn w0 x A c) (ho : w1.ownsRow w0.heap.size 36 3 v1 (l.length + 1) (inner ++ [.string x.f0, .slice A x.f1.length c, .int .i64 x.f2])) (hb : Below w0.heap.size w0 w1) : RowB w0 w1 (l ++ [x]) v1 :=
  ⟨⟨_, by rw [List.length_append, List.length_singleton]; exact ho, hr.snoc (bdIn_K hx) rfl⟩, hb⟩
end Go.Proofs.Ytcbomlmlindjdaa
end
section
namespace Go.Proofs.Ytcbomlmlindjdaa
open Go.RowKit Go.Proofs.YtcbomlmlindjdaaW.PrintWords Go.Proofs.YtcbomlmlindjdaaW.PrintLast Go.Proofs.YtcbomlmlindjdaaW.PrintMore
set_option linter.unusedVariables false
set_option linter.unusedSimpArgs false
theorem infoBdW : (Try.prog.info? 36).map (fun i => (i.zero, i.size, i.bytes)) = some (some (.agg #[(.string ⟨#[]⟩), (.slice none 0 0), (.int .i64 0)]), 3, 48) := by kernel_rfl
theorem l3Copy_any (l : List Bd) (A : Option Addr) (c : Nat) (w : World) (hr : kB.C w A l.length l) (hc : l.length ≤ c) (hs : SmB l) :
    Calls Try.prog 59 #[.slice A l.length c] w (fun e w' => ∃ B d, e = .returned (.slice B l.length d) ∧ NewB w.heap.size w' l (.slice B l.length d) ∧ Below w.heap.size w w') := by
  obtain ⟨k, hk⟩ := (ev_l3Copy hs).rounds
  refine (Q.spec_l3Copy.calls k A c l _ w hr hc hk).mono ?_
  rintro e w' ⟨v, rfl, hS, hb⟩
  have hn := NewB.ofS hS
  obtain ⟨B, d, rfl, _⟩ := hn.toS
  exact ⟨B, d, rfl, hn, hb⟩
/-- What l3Wrong leaves of the list l, with the draws i and v (at p and p + 1). -/
structure Wr (s : List Int) (l : List Bd) (p : Nat) (i : Nat) (x : Bd) (v : Int) (l' : List Bd) (q : Nat) : Prop where
  h0 : v = 0 → ∃ n, Ev (fun k => Q.spec_l15Rd_num.f k s ((p + 2 : Nat) : Int) [0, 1000, 5]) (n, ((p + 3 : Nat) : Int)) ∧ l' = l.set i ⟨x.f0, x.f1, n⟩ ∧ q = p + 3
  h1 : v = 1 → ∃ n, Ev (fun k => Q.spec_l15Rd_num.f k s ((p + 2 : Nat) : Int) [0, 1, 98]) (n, ((p + 3 : Nat) : Int)) ∧ l' = l.set i ⟨x.f0, x.f1 ++ [n], x.f2⟩ ∧ q = p + 3
  h2 : v = 2 → l' = l ++ [x] ∧ q = p + 2
  h3 : v ≠ 0 → v ≠ 1 → v ≠ 2 → l' = l ∧ q = p + 2
def WrongOk (s : List Int) (l : List Bd) (p : Nat) (l' : List Bd) (q : Nat) : Prop := ∀ (g : Nat) (w0 w : World) (A : Option Addr) (c : Nat), IsRd w0 w g s (p : Int) → Below w0.heap.size w0 w → kB.C w A l.length l → l.length ≤ c →
  Calls Try.prog 40 #[.pointer (some ⟨g, 0, none⟩), .slice A l.length c] w (DrB w0 g s q l' w)
set_option maxHeartbeats 4000000 in
set_option maxRecDepth 100000 in
theorem wrong_none {s : List Int} (p : Nat) : WrongOk s [] p [] p := by
  intro g w0 w A c hi hb hr hc
  have HD := Lib.hid (Dr.new hi hb)
  have t1 : (([] : List Bd).length == 0) = true := rfl
  have t2 : ((([] : List Bd).length : Int) == 0) = true := rfl
  have HC := Lib.hid (l3Copy_any [] A c w hr hc ⟨by simp, by simp⟩)
  clear hi hb hr
  go_enter Try.func40, Try.ntmps40
  go_wp2_with fail
  refine HC.out.mono ?_
  rintro e w1 ⟨B, d, rfl, hn, hb⟩
  have HN := Lib.hid hn.toS'.2
  have HD1 := Lib.hid (HD.out.later hb)
  clear hn hb
  go_wp2_with fail
  go_ret
  exact ⟨B, d, rfl, HN.out, HD1.out.is, HD1.out.b, HD1.out.kp⟩
set_option maxHeartbeats 8000000 in
set_option maxRecDepth 100000 in
theorem wrong_walk {s : List Int} (l : List Bd) (hs : SmB l) (hl2 : l.length ≤ 2000) (hx2 : ∀ b, b ∈ l → b.f1.length ≤ 2000) (p : Nat) (i : Nat) (hi : i < l.length) (v : Int) (l' : List Bd) (q : Nat)
    (e1 : Ev (fun k => Q.spec_l15Rd_pick.f k s (p : Int) (l.length : Int)) ((i : Int), ((p + 1 : Nat) : Int))) (e2 : Ev (fun k => Q.spec_l15Rd_pick.f k s ((p + 1 : Nat) : Int) 20) (v, ((p + 1 + 1 : Nat) : Int))) (hw : Wr s l p i l[i] v l' q) : WrongOk s l p l' q := by
  intro g w0 w A c hi0 hb hr hc
  have HD := Lib.hid (Dr.new hi0 hb)
  have t1 : (l.length == 0) = false := beq_eq_false_iff_ne.mpr (by omega)
  have t2 : ((l.length : Int) == 0) = false := beq_eq_false_iff_ne.mpr (by omega)
  have HC := Lib.hid (l3Copy_any l A c w hr hc hs)
  have HE1 := Lib.hid e1
  have HE2 := Lib.hid e2
  have HWR := Lib.hid hw
  have hx3 := hx2 l[i] (List.getElem_mem hi)
  have HX3 := Lib.hid hx3
  clear hi0 hb hr e1 e2 hw hs hx2 hx3
  go_enter Try.func40, Try.ntmps40
  go_wp2_with fail
  refine HC.out.mono ?_
  rintro e w1 ⟨B, d, rfl, hn, hb⟩
  have HN := Lib.hid hn
  have HD1 := Lib.hid (HD.out.later hb)
  clear hn hb HC HD
  go_wp2_with fail
  refine (pick_at HE1.out g w0 w1 HD1.out.is HD1.out.b).mono ?_
  rintro e w2 ⟨rfl, hi0, hb, hk⟩
  have HN2 := Lib.hid (HN.out.move (fun b h1 h2 => hk.2 b h2 (by have := HD1.out.lt; omega) (by simp)))
  have HD2 := Lib.hid (HD1.out.call hi0 hb hk)
  clear hi0 hb hk HN HD1
  go_wp2_with fail
  refine (pick_at HE2.out g w0 w2 HD2.out.is HD2.out.b).mono ?_
  rintro e w3 ⟨rfl, hi0, hb, hk⟩
  have HN3 := Lib.hid (HN2.out.move (fun b h1 h2 => hk.2 b h2 (by have := HD2.out.lt; omega) (by simp)))
  have HD3 := Lib.hid (HD2.out.call hi0 hb hk)
  clear hi0 hb hk HN2 HD2
  have HSZ := Lib.hid (show w.heap.size ≤ w3.heap.size from HD3.out.size)
  have p1 : (0 : Int) ≤ (i : Int) := by omega
  have p2 : (i : Int) < (l.length : Int) := by omega
  by_cases v0 : v = 0
  · have u0 : (v == 0) = true := beq_iff_eq.mpr v0
    obtain ⟨n, en, rfl, rfl⟩ := HWR.out.h0 v0
    have HEN := Lib.hid en
    clear en v0 HWR
    go_wp2_with fail
    refine (num_lit (l := [0, 1000, 5]) rfl (by simp) HEN.out g w0 w3 HD3.out.is HD3.out.b).mono ?_
    rintro e w4 ⟨rfl, hi0, hb, hk⟩
    have HN4 := Lib.hid (HN3.out.move (fun b h1 h2 => hk.2 b h2 (by have := HD3.out.lt; omega) (by simp)))
    have HD4 := Lib.hid (HD3.out.call hi0 hb hk)
    clear hi0 hb hk HN3 HD3
    obtain ⟨gr, cap, C, d', e, hat⟩ := HN4.out.atI HD4.out.size i hi
    obtain ⟨rfl, rfl⟩ : B = some ⟨gr, 0, none⟩ ∧ d = cap := by injection e with a1 _ a2; exact ⟨a1, a2⟩
    have HAT := Lib.hid hat
    have z2 := hat.c2
    have f2 := hat.fz (i * 3 + 2)
    clear hat e
    have HF := Lib.hid (HAT.out.id_ n).toS'
    have HDF := Lib.hid (HD4.out.put HAT.out.ge (j := i * 3 + 2) (.int .i64 n))
    have HLS := Lib.hid (show (l.set i ⟨l[i].f0, l[i].f1, n⟩).length = l.length from List.length_set)
    go_wp2_with fail
    go_ret
    exact ⟨_, _, by rw [HLS.out]; rfl, HF.out.2, HDF.out.is, HDF.out.b, HDF.out.kp⟩
  have u0 : (v == 0) = false := beq_eq_false_iff_ne.mpr v0
  by_cases v1 : v = 1
  · have u1 : (v == 1) = true := beq_iff_eq.mpr v1
    obtain ⟨n, en, rfl, rfl⟩ := HWR.out.h1 v1
    have HEN := Lib.hid en
    clear en v0 v1 HWR
    obtain ⟨gr, cap, C, d', e, hat⟩ := HN3.out.atI HD3.out.size i hi
    obtain ⟨rfl, rfl⟩ : B = some ⟨gr, 0, none⟩ ∧ d = cap := by injection e with a1 _ a2; exact ⟨a1, a2⟩
    have HAT := Lib.hid hat
    have z1 := hat.c1
    clear e
    have HLS := Lib.hid (fun b : Bd => (List.length_set : (l.set i b).length = l.length))
    have HG := Lib.hid (And.intro hat.ge hat.lt)
    generalize hxe : l[i] = x at HX3 z1
    have HXE := Lib.hid hxe
    clear hxe HAT
    go_wp2_with fail
    have HN := Lib.hid (HN3.out.move (W := w3.drew) (fun b h1 h2 => (below_drew (Below.refl w3.heap.size w3)).block b h2))
    have HD := Lib.hid (HD3.out.later (below_drew (Below.refl _ _)))
    have HSZ2 := Lib.hid (show w3.heap.size ≤ w3.drew.heap.size from Nat.le_refl _)
    have HZ := Lib.hid (show w3.drew.cell? ⟨gr, i * 3 + 1, none⟩ = some (.slice C x.f1.length d') from z1)
    refine start_ (n := 15) (S := (fun W : World => W.cell? ⟨gr, i * 3 + 1, none⟩ = some (.slice C x.f1.length d'))) (ds := [14]) #[false, false, false, false, false, false, false, false, false, false, false, false, false, false, false] (by kernel_rfl) rfl rfl z1 (fun hHeld => ?_)
    clear z1 HN3 HD3 hat
    generalize w3.drew = wd at HD HN HSZ2 HZ hHeld ⊢
    refine pure_ (i := 0) (N := some 30) (v := ?_) (a' := ?_) #[true, false, false, false, false, false, false, false, false, false, false, false, false, false, false] rfl rfl (by kernel_rfl) (fun _ _ _ h => h) (Or.inl ⟨by rfl, ?_⟩) ?_ ?_
    rotate_left
    · intro w'
      go_simp
      with_reducible rfl
    rotate_left
    · simp only [Act.put, List.setIfInBounds_toArray, List.set_cons_zero, List.set_cons_succ, i64_w, i32_w]
      rfl
    refine pure_ (i := 1) (N := some 31) (v := ?_) (a' := ?_) #[true, true, false, false, false, false, false, false, false, false, false, false, false, false, false] rfl rfl (by kernel_rfl) (fun _ _ _ h => h) (Or.inl ⟨by rfl, ?_⟩) ?_ ?_
    rotate_left
    · intro w'
      go_simp
      with_reducible rfl
    rotate_left
    · simp only [Act.put, List.setIfInBounds_toArray, List.set_cons_zero, List.set_cons_succ, i64_w, i32_w]
      rfl
    refine pure_ (i := 2) (N := some 32) (v := ?_) (a' := ?_) #[true, true, true, false, false, false, false, false, false, false, false, false, false, false, false] rfl rfl (by kernel_rfl) (fun _ _ _ h => h) (Or.inl ⟨by rfl, ?_⟩) ?_ ?_
    rotate_left
    · intro w'
      go_simp
      with_reducible rfl
    rotate_left
    · simp only [Act.put, List.setIfInBounds_toArray, List.set_cons_zero, List.set_cons_succ, i64_w, i32_w]
      rfl
    refine pure_ (i := 3) (N := some 33) (v := ?_) (a' := ?_) #[true, true, true, true, false, false, false, false, false, false, false, false, false, false, false] rfl rfl (by kernel_rfl) (fun _ _ _ h => h) (Or.inl ⟨by rfl, ?_⟩) ?_ ?_
    rotate_left
    · intro w'
      go_simp
      with_reducible rfl
    rotate_left
    · simp only [Act.put, List.setIfInBounds_toArray, List.set_cons_zero, List.set_cons_succ, i64_w, i32_w]
      rfl
    refine pure_ (i := 7) (N := some 37) (v := ?_) (a' := ?_) #[true, true, true, true, false, false, false, true, false, false, false, false, false, false, false] rfl rfl (by kernel_rfl) (fun _ _ _ h => h) (Or.inl ⟨by rfl, ?_⟩) ?_ ?_
    rotate_left
    · intro w'
      go_simp
      with_reducible rfl
    rotate_left
    · simp only [Act.put, List.setIfInBounds_toArray, List.set_cons_zero, List.set_cons_succ, i64_w, i32_w]
      rfl
    refine pure_ (i := 4) (N := some 34) (v := ?_) (a' := ?_) #[true, true, true, true, true, false, false, true, false, false, false, false, false, false, false] rfl rfl (by kernel_rfl) (fun _ _ _ h => h) (Or.inl ⟨by rfl, ?_⟩) ?_ ?_
    rotate_left
    · intro w'
      go_simp
      with_reducible rfl
    rotate_left
    · simp only [Act.put, List.setIfInBounds_toArray, List.set_cons_zero, List.set_cons_succ, i64_w, i32_w]
      rfl
    refine pure_ (i := 5) (N := some 35) (v := ?_) (a' := ?_) #[true, true, true, true, true, true, false, true, false, false, false, false, false, false, false] rfl rfl (by kernel_rfl) (fun _ _ _ h => h) (Or.inl ⟨by rfl, ?_⟩) ?_ ?_
    rotate_left
    · intro w'
      go_simp
      with_reducible rfl
    rotate_left
    · simp only [Act.put, List.setIfInBounds_toArray, List.set_cons_zero, List.set_cons_succ, i64_w, i32_w]
      rfl
    refine take_ (i := 6) (N := some 36) (v := ?_) (a' := ?_) #[true, true, true, true, true, true, true, true, false, false, false, false, false, false, false] rfl rfl (by kernel_rfl) (fun _ _ _ h => h) (Or.inl ⟨by rfl, ?_⟩) hHeld ?_ ?_
    rotate_left
    · rintro w' s0
      go_simp
      with_reducible rfl
    rotate_left
    · simp only [Act.put, List.setIfInBounds_toArray, List.set_cons_zero, List.set_cons_succ, i64_w, i32_w]
      rfl
    refine one_ (i := 8) (N := some 38) #[true, true, true, true, true, true, true, true, true, false, false, false, false, false, false] rfl rfl (by kernel_rfl) (by decide) (fun K hK => ?_)
    refine value_ (w1 := ?_) (v := ?_) (by rfl) rfl ?_ ?_
    rotate_left 2
    · go_simp
      constructor
      · rfl
      · rfl
    refine hK.out _ _ (ck0 (below_new wd _) hHeld) (fun hHeld => ?_)
    clear hK K
    refine norm_ (a' := ?_) ?_ ?_
    rotate_left
    · show Act.put _ (some 38) _ = _
      simp only [Act.put, List.setIfInBounds_toArray, List.set_cons_zero, List.set_cons_succ, i64_w, i32_w]
      rfl
    refine one_ (i := 9) (N := some 39) #[true, true, true, true, true, true, true, true, true, true, false, false, false, false, false] rfl rfl (by kernel_rfl) (by decide) (fun K hK => ?_)
    refine goes_ Try.func56 (by kernel_rfl) rfl #[.pointer (some ⟨g, 0, none⟩), .slice (some ⟨wd.heap.size, 0, none⟩) 3 3] (by rfl) rfl rfl (by (try simp only [List.map_toArray, List.map_cons, List.map_nil]); first | done | rfl) ?_
    refine (num_lit (l := [0, 1, 98]) rfl (by simp) HEN.out g w0 wd HD.out.is HD.out.b).mono ?_
    rintro e w4 ⟨rfl, hi0, hb, hk⟩
    refine ⟨_, rfl, ?_⟩
    have HZ4 := Lib.hid ((World.cell?_of_block (w := wd) (hk.2 gr (by have := HG.out.2; have := HSZ2.out; omega) (by have := HD.out.lt; have := HG.out.1; omega) (by simp))).trans HZ.out)
    have HN4 := Lib.hid (HN.out.move (fun b h1 h2 => hk.2 b h2 (by have := HD.out.lt; omega) (by simp)))
    have HD4 := Lib.hid (HD.out.call hi0 hb hk)
    clear hi0 hb hk HN HD
    have HAT := Lib.hid (HN4.out.atC HD4.out.size i hi HXE.out HZ4.out)
    refine hK.out _ _ HZ4.out (fun hHeld => ?_)
    clear hK K
    refine norm_ (a' := ?_) ?_ ?_
    rotate_left
    · show Act.put _ (some 39) _ = _
      simp only [Act.put, List.setIfInBounds_toArray, List.set_cons_zero, List.set_cons_succ, i64_w, i32_w]
      rfl
    refine one_ (i := 10) (N := some 40) #[true, true, true, true, true, true, true, true, true, true, true, false, false, false, false] rfl rfl (by kernel_rfl) (by decide) (fun K hK => ?_)
    refine value_ (w1 := ?_) (v := ?_) (by rfl) rfl ?_ ?_
    rotate_left 2
    · go_simp
      constructor
      · rfl
      · rfl
    refine hK.out _ _ (ck0 (below_new w4 _) HZ4.out) (fun hHeld => ?_)
    clear hK K
    refine norm_ (a' := ?_) ?_ ?_
    rotate_left
    · show Act.put _ (some 40) _ = _
      simp only [Act.put, List.setIfInBounds_toArray, List.set_cons_zero, List.set_cons_succ, i64_w, i32_w]
      rfl
    refine one_ (i := 11) (N := some 41) #[true, true, true, true, true, true, true, true, true, true, true, true, false, false, false] rfl rfl (by kernel_rfl) (by decide) (fun K hK => ?_)
    refine step_append_cells (w0 := w0) (W := w4) w0.heap.size (by rfl) (.tmp 36) (.tmp 40) 27 3 (.int .i64 0) 1 8 rfl Try.underlying27 infoI rfl (by decide) (by omega) (.slice C x.f1.length d') x.f1.length (encI x.f1) [.int .i64 n] rfl rfl rfl (by simp [Value.oneCell']) (own_weaken HAT.out.row HD4.out.b0) HD4.out.b HD4.out.b.size (by have := HX3.out; omega) ?_
    intro v' w8 ho hb8 hg8 hat8
    have ho8 : w8.ownsRow 0 3 1 v' (x.f1 ++ [n]).length (encI (x.f1 ++ [n])) := by
      rw [List.length_append, show encI (x.f1 ++ [n]) = encI x.f1 ++ [.int .i64 n] from by simp [encs]]
      exact own_weaken ho (Nat.zero_le _)
    obtain ⟨A', c', rfl⟩ : ∃ A c, v' = .slice A (x.f1.length + 1) c := by
      rcases ho with ⟨_, ⟨rfl, h0⟩ | ⟨g5, cap, cur, rfl, _⟩⟩
      · exact absurd h0 (by omega)
      · exact ⟨_, _, rfl⟩
    obtain ⟨q1, qf, hN8⟩ := HAT.out.sc_ w8 _ (x.f1 ++ [n]) hg8 ho8 hat8
    have HQ1 := Lib.hid q1
    have HQF := Lib.hid qf
    have HF := Lib.hid hN8.toS'
    have HDF := Lib.hid ((HD4.out.grown hg8 (fun k hk => by have := own_base_of HAT.out.row k hk; omega)).put HAT.out.ge (j := i * 3 + 1) (.slice A' (x.f1.length + 1) c'))
    have HLS := Lib.hid (fun b : Bd => (List.length_set : (l.set i b).length = l.length))
    clear ho hb8 hg8 hat8 ho8 q1 qf hN8
    refine hK.out _ _ HQ1.out (fun hHeld => ?_)
    clear hK K
    refine norm_ (a' := ?_) ?_ ?_
    rotate_left
    · show Act.put _ (some 41) _ = _
      simp only [Act.put, List.setIfInBounds_toArray, List.set_cons_zero, List.set_cons_succ, i64_w, i32_w]
      rfl
    refine pure_ (i := 12) (N := some 42) (v := ?_) (a' := ?_) #[true, true, true, true, true, true, true, true, true, true, true, true, true, false, false] rfl rfl (by kernel_rfl) (fun _ _ _ h => h) (Or.inl ⟨by rfl, ?_⟩) ?_ ?_
    rotate_left
    · intro w'
      go_simp
      with_reducible rfl
    rotate_left
    · simp only [Act.put, List.setIfInBounds_toArray, List.set_cons_zero, List.set_cons_succ, i64_w, i32_w]
      rfl
    refine pure_ (i := 13) (N := some 43) (v := ?_) (a' := ?_) #[true, true, true, true, true, true, true, true, true, true, true, true, true, true, false] rfl rfl (by kernel_rfl) (fun _ _ _ h => h) (Or.inl ⟨by rfl, ?_⟩) ?_ ?_
    rotate_left
    · intro w'
      go_simp
      with_reducible rfl
    rotate_left
    · simp only [Act.put, List.setIfInBounds_toArray, List.set_cons_zero, List.set_cons_succ, i64_w, i32_w]
      rfl
    refine last_ (i := 14) (N := none) #[true, true, true, true, true, true, true, true, true, true, true, true, true, true, true] rfl rfl (by kernel_rfl) (by decide) (fun K hK => ?_)
    have z1 := HQ1.out
    have f1 := HQF.out
    refine skip_ (w1 := ?_) (by rfl) rfl ?_ ?_
    rotate_left
    · go_simp
      rfl
    refine hK.out _ _ ?_
    clear hK K z1 f1
    refine done_ (by kernel_rfl) ?_
    try go_wp2_with fail
    go_ret
    exact ⟨_, _, by rw [HLS.out]; rfl, by rw [HXE.out]; exact HF.out.2, HDF.out.is, HDF.out.b, HDF.out.kp⟩
  have u1 : (v == 1) = false := beq_eq_false_iff_ne.mpr v1
  by_cases v2 : v = 2
  · have u2 : (v == 2) = true := beq_iff_eq.mpr v2
    obtain ⟨rfl, rfl⟩ := HWR.out.h2 v2
    clear v0 v1 v2 HWR
    obtain ⟨inner, fp, ho, ht, hnd, hge⟩ := HN3.out
    obtain ⟨gr, cap, e, hg0, hg1⟩ := ho.form (by omega)
    obtain ⟨rfl, rfl⟩ : B = some ⟨gr, 0, none⟩ ∧ d = cap := by injection e with a1 _ a2; exact ⟨a1, a2⟩
    obtain ⟨ia, v1_, ib, fa, fb, hin, hfp, hil, h1, _⟩ := ht.at2 i hi
    obtain ⟨C, d', rfl, _, _⟩ := own_C h1
    have HH1 := Lib.hid h1
    have HIN := Lib.hid hin
    have HO := Lib.hid ho
    have HT := Lib.hid ht
    have HND := Lib.hid hnd
    have HGE := Lib.hid hge
    have HFP := Lib.hid hfp
    have hoi := ho
    rw [hin] at hoi
    obtain ⟨⟨z0, z1, z2⟩, _, _⟩ := row_put3 hoi hil
    generalize hxe : l[i] = x at HH1 HIN z0 z1 z2 HFP
    have HXE := Lib.hid hxe
    clear e ho ht hnd hge hin hfp h1 hoi hil hg0 hxe HX3 HN3
    go_wp2_with (first | ((with_reducible refine gate_dst (N := 52) rfl ?_); refine print_append_cells (w0 := w0) w0.heap.size rfl (.tmp 46) (.tmp 51) 23 36 (.agg #[(.string ⟨#[]⟩), (.slice none 0 0), (.int .i64 0)]) 3 48 rfl Try.underlying23 infoBdW rfl (by decide) (by omega) (.slice (some ⟨gr, 0, none⟩) l.length d) l.length inner [.string x.f0, .slice C x.f1.length d', .int .i64 x.f2] rfl rfl rfl (by simp [Value.oneCell']) (own_base_ HO.out (fun b hb => by have := HGE.out b (List.mem_append_left _ (obs_mem.2 hb)); have := HD3.out.b0; omega)) HD3.out.b HD3.out.b.size (by omega) ?_; intro v' w8 ho hb8 hg8 hat8))
    have hfpn : ∀ b, b ∈ fp → some b ≠ (Value.slice (some ⟨gr, 0, none⟩) l.length d).ownBlock := fun b hb he => (List.nodup_append.1 HND.out).2.2 b (obs_mem.2 he.symm) b hb rfl
    have hlt := NewB.lt (B := 0) HO.out HT.out
    have ht8 := HT.out.move (w1 := w8) (fun b hb => hg8.block b (hlt b (List.mem_append_right _ hb)) (hfpn b hb))
    have hvf : ∀ b, b ∈ obs (Value.slice C x.f1.length d') → b ∈ fp := fun b hb => by rw [HFP.out]; simp [hb]
    have h18 := own_move (w1 := w8) HH1.out (fun b hb => hg8.block b (hlt b (List.mem_append_right _ (hvf b (obs_mem.2 hb)))) (hfpn b (hvf b (obs_mem.2 hb))))
    have hB8 := ht8.append (BdL.one (b := x) h18)
    have hl8 : (l ++ [x]).length = l.length + 1 := by simp
    obtain ⟨A8, c8, e8, hs8⟩ := BdS.of (B := w.heap.size) (l := l ++ [x]) (by rw [hl8]; exact own_weaken ho (Nat.zero_le _)) hB8 (fun b hb => by
      rcases List.mem_append.1 hb with h | h
      · rcases hat8 with q | ⟨c, q, hc⟩
        · exact HGE.out b (List.mem_append_left _ (obs_mem.2 (q ▸ obs_mem.1 h)))
        · have := obs_mem.1 h
          rw [q] at this
          cases this
          have := HSZ.out
          omega
      · rcases List.mem_append.1 h with h | h
        · exact HGE.out b (List.mem_append_right _ h)
        · exact HGE.out b (List.mem_append_right _ (hvf b h)))
    subst e8
    have HF := Lib.hid (show BdS w.heap.size w8 (l ++ [l[i]]) A8 c8 from by rw [HXE.out]; exact hs8)
    have HDF := Lib.hid (HD3.out.grown hg8 (fun k hk => HGE.out k (List.mem_append_left _ (obs_mem.2 hk))))
    clear ho hb8 hg8 hat8 hfpn hlt ht8 hvf h18 hB8 hs8 hl8 z0 z1 z2
    go_wp2_with fail
    go_ret
    exact ⟨A8, c8, by rw [HXE.out]; rfl, HF.out, HDF.out.is, HDF.out.b, HDF.out.kp⟩
  have u2 : (v == 2) = false := beq_eq_false_iff_ne.mpr v2
  obtain ⟨rfl, rfl⟩ := HWR.out.h3 v0 v1 v2
  have HF := Lib.hid HN3.out.toS'
  clear v0 v1 v2 HWR
  go_wp2_with fail
  go_ret
  exact ⟨_, _, rfl, HF.out.2, HD3.out.is, HD3.out.b, HD3.out.kp⟩
theorem smD_set {n : Nat} {l : List Bd} (h : SmD n l) (i : Nat) {b : Bd} (hb : b.f0.size ≤ n + 1 ∧ b.f1.length ≤ n + 1) : SmD (n + 1) (l.set i b) :=
  ⟨by rw [List.length_set]; have := h.1; omega, fun c hc => by
    rcases List.mem_or_eq_of_mem_set hc with q | q
    · have := h.2 c q; omega
    · rw [q]; exact hb⟩
theorem l3Wrong_ex {s : List Int} (hs : Bts s) (l : List Bd) (n : Nat) (hl : SmD n l) (hn : n ≤ 1000) (p : Nat) (hp : p ≤ 800000) : ∃ (l' : List Bd) (q : Nat), q ≤ p + 3 ∧ SmD (n + 1) l' ∧ WrongOk s l p l' q := by
  by_cases h0 : l = []
  · subst h0
    exact ⟨[], p, by omega, ⟨by simp, by simp⟩, wrong_none p⟩
  have hpos := List.length_pos_iff.2 h0
  have hln := hl.1
  obtain ⟨k, hk, e1⟩ := ev_pick hs p (by omega) (l.length : Int) (by omega)
  obtain ⟨i, rfl⟩ := Int.eq_ofNat_of_zero_le (hk (by omega)).1
  have hi : i < l.length := by have := (hk (by omega)).2; omega
  obtain ⟨v, hv, e2⟩ := ev_pick hs (p + 1) (by omega) 20 (by omega)
  obtain ⟨a, _, ea⟩ := ev_num hs (p + 2) (by omega) [0, 1000, 5] (by simp) (by simp)
  obtain ⟨b, _, eb⟩ := ev_num hs (p + 2) (by omega) [0, 1, 98] (by simp) (by simp)
  have hx := hl.2 _ (List.getElem_mem hi)
  have key := fun l' q hw => wrong_walk l (hl.B (by omega)) (by omega) (fun b hb => by have := hl.2 b hb; omega) p i hi v l' q e1 e2 hw
  by_cases v0 : v = 0
  · exact ⟨_, _, by omega, smD_set hl i ⟨by show l[i].f0.size ≤ _; omega, by show l[i].f1.length ≤ _; omega⟩, key (l.set i ⟨l[i].f0, l[i].f1, a⟩) (p + 3) ⟨fun _ => ⟨a, ea, rfl, rfl⟩, fun h => absurd (v0.symm.trans h) (by decide), fun h => absurd (v0.symm.trans h) (by decide), fun h => absurd v0 h⟩⟩
  by_cases v1 : v = 1
  · exact ⟨_, _, by omega, smD_set hl i ⟨by show l[i].f0.size ≤ _; omega, by show (l[i].f1 ++ [b]).length ≤ _; rw [List.length_append, List.length_singleton]; omega⟩, key (l.set i ⟨l[i].f0, l[i].f1 ++ [b], l[i].f2⟩) (p + 3) ⟨fun h => absurd h v0, fun _ => ⟨b, eb, rfl, rfl⟩, fun h => absurd (v1.symm.trans h) (by decide), fun _ h => absurd v1 h⟩⟩
  by_cases v2 : v = 2
  · exact ⟨_, _, by omega, ⟨by simp; omega, fun c hc => by
      rcases List.mem_append.1 hc with q | q
      · have := hl.2 c q; omega
      · rw [List.mem_singleton.1 q]; omega⟩, key (l ++ [l[i]]) (p + 2) ⟨fun h => absurd h v0, fun h => absurd h v1, fun _ => ⟨rfl, rfl⟩, fun _ _ h => absurd v2 h⟩⟩
  · exact ⟨_, _, by omega, hl.more (by omega), key l (p + 2) ⟨fun h => absurd h v0, fun h => absurd h v1, fun h => absurd h v2, fun _ _ _ => ⟨rfl, rfl⟩⟩⟩
end Go.Proofs.Ytcbomlmlindjdaa
end
section
namespace Go.Proofs.Ytcbomlmlindjdaa
open Go.RowKit Go.Proofs.YtcbomlmlindjdaaW.PrintWords Go.Proofs.YtcbomlmlindjdaaW.PrintLast Go.Proofs.YtcbomlmlindjdaaW.PrintMore
set_option linter.unusedVariables false
set_option linter.unusedSimpArgs false
abbrev nm4 : List ByteArray := [⟨#[120]⟩, ⟨#[120]⟩, ⟨#[121]⟩, ⟨#[122]⟩]
theorem nm4_small {n : ByteArray} (h : n ∈ nm4) : n.size ≤ 13 := by
  simp only [List.mem_cons, List.not_mem_nil, or_false] at h
  rcases h with rfl | rfl | rfl | rfl <;> decide
/-- Bindings and a form are handed back. -/
def GetBF (w : World) (bl : List Bd) (x : Fm) (e : Ending) (w' : World) : Prop := ∃ A c A3 c3 A4 c4, e = .returned (.tuple #[.slice A bl.length c, .agg #[.int .i64 x.f0, .string x.f1, .int .i64 x.f2, .slice A3 x.f3.length c3, .slice A4 x.f4.length c4]]) ∧ BdS w.heap.size w' bl A c ∧ FmS w.heap.size w' x A3 c3 A4 c4 ∧ Below w.heap.size w w'
/-- A form reads, and goes on to where the blocks behind g other than g6 stand as_ they stood. -/
structure FmQ (g g6 : Nat) (w : World) (x : Fm) (A3 : Option Addr) (c3 : Nat) (A4 : Option Addr) (c4 : Nat) : Prop where mk ::
  out : ∀ W : World, (∀ b, g < b → b ≠ g6 → b < w.heap.size → W.heap[b]? = w.heap[b]?) → FmIn W x A3 c3 A4 c4
structure BdQ (g g6 : Nat) (w : World) (l : List Bd) (A : Option Addr) (c : Nat) : Prop where mk ::
  le : l.length ≤ c
  out : ∀ W : World, (∀ b, g < b → b ≠ g6 → b < w.heap.size → W.heap[b]? = w.heap[b]?) → kB.C W A l.length l
section
variable {g g6 : Nat} {w W : World} {x : Fm} {A3 A4 A : Option Addr} {c3 c4 c : Nat} {l : List Bd}
theorem FmQ.now (h : FmQ g g6 w x A3 c3 A4 c4) : FmIn w x A3 c3 A4 c4 := h.out w (fun _ _ _ _ => rfl)
theorem BdQ.now (h : BdQ g g6 w l A c) : kB.C w A l.length l := h.out w (fun _ _ _ _ => rfl)
theorem FmQ.move (h : FmQ g g6 w x A3 c3 A4 c4) (hs : w.heap.size ≤ W.heap.size) (hm : ∀ b, g < b → b ≠ g6 → b < w.heap.size → W.heap[b]? = w.heap[b]?) : FmQ g g6 W x A3 c3 A4 c4 :=
  ⟨fun W' h' => h.out W' (fun b h1 h2 h3 => (h' b h1 h2 (Nat.lt_of_lt_of_le h3 hs)).trans (hm b h1 h2 h3))⟩
theorem BdQ.move (h : BdQ g g6 w l A c) (hs : w.heap.size ≤ W.heap.size) (hm : ∀ b, g < b → b ≠ g6 → b < w.heap.size → W.heap[b]? = w.heap[b]?) : BdQ g g6 W l A c :=
  ⟨h.le, fun W' h' => h.out W' (fun b h1 h2 h3 => (h' b h1 h2 (Nat.lt_of_lt_of_le h3 hs)).trans (hm b h1 h2 h3))⟩
theorem FmQ.later (h : FmQ g g6 w x A3 c3 A4 c4) (hb : Below w.heap.size w W) : FmQ g g6 W x A3 c3 A4 c4 := h.move hb.size (fun b _ _ hlt => hb.block b hlt)
theorem BdQ.later (h : BdQ g g6 w l A c) (hb : Below w.heap.size w W) : BdQ g g6 W l A c := h.move hb.size (fun b _ _ hlt => hb.block b hlt)
theorem FmQ.keep (h : FmQ g g6 w x A3 c3 A4 c4) (hk : KeepBut w W g none) : FmQ g g6 W x A3 c3 A4 c4 := h.move hk.1 (fun b h1 _ hlt => hk.2 b hlt (by omega) (by simp))
theorem BdQ.keep (h : BdQ g g6 w l A c) (hk : KeepBut w W g none) : BdQ g g6 W l A c := h.move hk.1 (fun b h1 _ hlt => hk.2 b hlt (by omega) (by simp))
theorem FmQ.ofS {lo : Nat} (h : FmS lo w x A3 c3 A4 c4) (h1 : g < lo) (h2 : g6 < lo ∨ w.heap.size ≤ g6) : FmQ g g6 w x A3 c3 A4 c4 := ⟨fun W hW => h.out W (fun b h3 h4 => hW b (by omega) (by omega) h4)⟩
theorem BdQ.ofS {lo : Nat} (h : BdS lo w l A c) (h1 : g < lo) (h2 : g6 < lo ∨ w.heap.size ≤ g6) : BdQ g g6 w l A c := ⟨h.le, fun W hW => h.out W (fun b h3 h4 => hW b (by omega) (by omega) h4)⟩
theorem FmQ.toS {lo : Nat} (h : FmQ g g6 w x A3 c3 A4 c4) (h1 : lo ≤ g) : FmS lo w x A3 c3 A4 c4 := ⟨fun W hW => h.out W (fun b h3 _ h4 => hW b (by omega) h4)⟩
theorem BdQ.toS {lo : Nat} (h : BdQ g g6 w l A c) (h1 : lo ≤ g) : BdS lo w l A c := ⟨h.le, fun W hW => h.out W (fun b h3 _ h4 => hW b (by omega) h4)⟩
/-- The form's scopes give way to 1, 2, 3. -/
theorem sc123 {w0 w2 : World} {s : List Int} {q : Int} {a a' : Fm} {O : Obj} (ha : a' = ⟨a.f0, a.f1, a.f2, [1, 2, 3], a.f4⟩) (hf : FmQ g g6 w a A3 c3 A4 c4) (hl : BdQ g g6 w l A c) (hr : w.heap[w0.heap.size]? = some O) (hd : Dr w0 w2 g s q w)
    (hk : w.heap[g6]? = some (.cells #[.int .i64 a.f0, .string a.f1, .int .i64 a.f2, .slice A3 a.f3.length c3, .slice A4 a.f4.length c4] 30)) (hg : g < g6) (h0 : w0.heap.size < g6) (hw : w2.heap.size ≤ g6) :
    ∃ S3 d3 S4 d4, FmQ g g6 ((w.alloc (.cells #[.int .i64 1, .int .i64 2, .int .i64 3] 3 (0, 0))).setCell ⟨g6, 3, none⟩ (.slice (some ⟨w.heap.size, 0, none⟩) 3 3)) a' S3 d3 S4 d4 ∧ BdQ g g6 ((w.alloc (.cells #[.int .i64 1, .int .i64 2, .int .i64 3] 3 (0, 0))).setCell ⟨g6, 3, none⟩ (.slice (some ⟨w.heap.size, 0, none⟩) 3 3)) l A c ∧
      ((w.alloc (.cells #[.int .i64 1, .int .i64 2, .int .i64 3] 3 (0, 0))).setCell ⟨g6, 3, none⟩ (.slice (some ⟨w.heap.size, 0, none⟩) 3 3)).heap[w0.heap.size]? = some O ∧ Dr w0 w2 g s q ((w.alloc (.cells #[.int .i64 1, .int .i64 2, .int .i64 3] 3 (0, 0))).setCell ⟨g6, 3, none⟩ (.slice (some ⟨w.heap.size, 0, none⟩) 3 3)) ∧
      ((w.alloc (.cells #[.int .i64 1, .int .i64 2, .int .i64 3] 3 (0, 0))).setCell ⟨g6, 3, none⟩ (.slice (some ⟨w.heap.size, 0, none⟩) 3 3)).heap[g6]? = some (.cells #[.int .i64 a'.f0, .string a'.f1, .int .i64 a'.f2, .slice S3 a'.f3.length d3, .slice S4 a'.f4.length d4] 30) := by
  subst ha
  have h6 := blk_lt hk
  have bn := below_new w (.cells #[.int .i64 1, .int .i64 2, .int .i64 3] 3 (0, 0))
  have hset := blk_set (blk_below hk bn) 3 (.slice (some ⟨w.heap.size, 0, none⟩) 3 3)
  have hsz : ((w.alloc (.cells #[.int .i64 1, .int .i64 2, .int .i64 3] 3 (0, 0))).setCell ⟨g6, 3, none⟩ (.slice (some ⟨w.heap.size, 0, none⟩) 3 3)).heap.size = w.heap.size + 1 := by simp
  have hall : ∀ b, b ≠ g6 → b < w.heap.size → ((w.alloc (.cells #[.int .i64 1, .int .i64 2, .int .i64 3] 3 (0, 0))).setCell ⟨g6, 3, none⟩ (.slice (some ⟨w.heap.size, 0, none⟩) 3 3)).heap[b]? = w.heap[b]? := fun b h1 h2 => (Below.heap_setCell _ _ _ _ (by exact h1)).trans (bn.block b h2)
  have hnew : ((w.alloc (.cells #[.int .i64 1, .int .i64 2, .int .i64 3] 3 (0, 0))).setCell ⟨g6, 3, none⟩ (.slice (some ⟨w.heap.size, 0, none⟩) 3 3)).heap[w.heap.size]? = some (.cells #[.int .i64 1, .int .i64 2, .int .i64 3] 3 (0, 0)) := (Below.heap_setCell _ _ _ _ (show w.heap.size ≠ g6 by omega)).trans (blk_new w _)
  refine ⟨some ⟨w.heap.size, 0, none⟩, 3, A4, c4, ⟨fun W hW => ?_⟩, hl.move (by rw [hsz]; omega) (fun b _ h2 h3 => hall b h2 h3), (hall _ (by omega) (blk_lt hr)).trans hr, (hd.later bn).put (b := g6) (j := 3) hw (.slice (some ⟨w.heap.size, 0, none⟩) 3 3), ?_⟩
  · have h1 := hf.out W (fun b h1 h2 h3 => (hW b h1 h2 (by rw [hsz]; omega)).trans (hall b h2 h3))
    have h2 := hW w.heap.size (by omega) (by omega) (by rw [hsz]; omega)
    exact ⟨Nat.le_refl 3, reads_block (l := [1, 2, 3]) (h2.trans hnew) (by simp) rfl, h1.l4, h1.g4⟩
  · simpa using hset
end
set_option maxHeartbeats 8000000 in
set_option maxRecDepth 100000 in
theorem l3Case_ex (l : List Int) (hl : ∀ z, z ∈ l → 0 ≤ z ∧ z < 256) : ∃ (bl : List Bd) (x : Fm), SmD 102 bl ∧ x.tot ≤ 7000 ∧ ∀ (A : Option Addr) (c : Nat) (w : World), (Kd.int .u8).C w A l.length l → l.length ≤ c → Calls Try.prog 51 #[.slice A l.length c] w (GetBF w bl x) := by
  obtain ⟨s, hs, hopen⟩ := open_at l hl
  obtain ⟨bl, q0, hq0, hbl, hdraw⟩ := l3Draw_ex hs 0 (by omega)
  obtain ⟨nm, hnm, e1⟩ := ev_of hs q0 (by omega) nm4 (by simp) (by simp)
  have n1 := nm4_small hnm
  have ht1 : (lnm nm).tot = nm.size + 0 + 0 := Fm.tot_eq _
  have hs1 : (lnm nm).size = 1 + 0 := Fm.size_eq _
  obtain ⟨a, q1, hq1, b1, a1s, f1, c1⟩ := dress_ex hs (lnm nm) (by omega) (q0 + 1) (by omega)
  obtain ⟨v3, hv3, e3⟩ := ev_pick hs q1 (by omega) 3 (by omega)
  obtain ⟨v16, hv16, e16⟩ := ev_pick hs (q1 + 1) (by omega) 16 (by omega)
  have HO := Lib.hid hopen
  have HDRAW := Lib.hid hdraw
  have HE1 := Lib.hid e1
  have HS1 := Lib.hid c1
  have HE3 := Lib.hid e3
  have HE16 := Lib.hid e16
  have hat : a.tot ≤ 100 := by omega
  have has : a.size = 1 := by omega
  have hq9 : q1 ≤ 30 := by omega
  clear hopen hdraw e1 c1 e3 e16 hnm hv3 hv16 b1 a1s f1 ht1 hs1
  by_cases v30 : v3 = 0 <;> by_cases v160 : v16 = 0
  · have t3 : (v3 == 0) = true := beq_iff_eq.mpr v30
    have t16 : (v16 == 0) = true := beq_iff_eq.mpr v160
    obtain ⟨a', ha'⟩ : ∃ a' : Fm, a' = ⟨a.f0, a.f1, a.f2, [1, 2, 3], a.f4⟩ := ⟨_, rfl⟩
    have hat' : a'.tot ≤ 200 := by rw [ha', Fm.tot_eq]; have := Fm.tot_eq a; simp only [List.length_cons, List.length_nil]; omega
    have has' : a'.size = 1 := by rw [ha', Fm.size_eq]; have := Fm.size_eq a; show 1 + sizes a.f4 = 1; omega
    obtain ⟨bl1, q3, hq3, hb1, hw1⟩ := l3Wrong_ex hs bl 100 hbl (by omega) (q1 + 1 + 1) (by omega)
    obtain ⟨bl2, q4, hq4, hb2, hw2⟩ := l3Wrong_ex hs bl1 101 hb1 (by omega) q3 (by omega)
    obtain ⟨y, q5, hq5, ht5, _, hm⟩ := mutate_ex hs a' (by omega) q4 (by omega)
    refine ⟨bl2, y, hb2, by omega, fun A c w hr hc => ?_⟩
    have HW1 := Lib.hid hw1
    have HW2 := Lib.hid hw2
    have HM := Lib.hid hm
    clear hw1 hw2 hm hb1 hb2 hq3 hq4 hq5 ht5
    have HA' := Lib.hid ha'
    clear ha'
    clear hs hat' has' hq0 hq1 hq9 n1 hat has v30 v160 hbl
    go_enter Try.func51, Try.ntmps51
    go_wp2_with fail
    refine (HO.out A c w _ (below_new _ _) hr hc).mono ?_
    rintro e w2 ⟨g, rfl, hi, hb, hb2⟩
    obtain ⟨kr, hbw⟩ := one_new hb2
    have HD := Lib.hid (Dr.new hi hb)
    have HGR := Lib.hid (show g ≠ w.heap.size from Q.IsS78.ne_blk hi kr (by decide))
    have HGE := Lib.hid (show w.heap.size ≤ g from Q.IsS78.ge hi)
    have HR := Lib.hid kr
    have HRL := Lib.hid (blk_lt kr)
    clear hi hb hb2 kr hbw
    go_wp2_with fail
    refine (HDRAW.out g w w2 HD.out.is HD.out.b).mono ?_
    rintro e w3 ⟨L_A, L_c, rfl, hbs, hi, hb, hk⟩
    have HLIST := Lib.hid hbs
    have HGL := Lib.hid (show g < w2.heap.size from HD.out.lt)
    replace HR := Lib.hid (hk.blk HR.out (fun e => HGR.out e.symm) (by simp))
    replace HD := Lib.hid (HD.out.call hi hb hk)
    clear hbs hi hb hk
    go_wp2_with fail
    refine (of_lit (l := nm4) rfl (by simp) HE1.out g w w3 HD.out.is HD.out.b).mono ?_
    rintro e w4 ⟨rfl, hi, hb, hk⟩
    replace HLIST := Lib.hid (HLIST.out.keep hk HGL.out)
    replace HR := Lib.hid (hk.blk HR.out (fun e => HGR.out e.symm) (by simp))
    replace HD := Lib.hid (HD.out.call hi hb hk)
    clear hi hb hk
    go_wp2_with fail
    refine (l1Name_any nm w4).mono ?_
    rintro e w5 ⟨rfl, hb⟩
    replace HLIST := Lib.hid (HLIST.out.later hb)
    replace HR := Lib.hid (blk_below HR.out hb)
    replace HD := Lib.hid (HD.out.later hb)
    clear hb
    go_wp2_with fail
    refine (HS1.out g none 0 none 0 w w5 HD.out.is HD.out.b (lnm_in nm w5)).mono ?_
    intro e w6 hpo
    obtain ⟨A_3, A_c3, A_4, A_c4, rfl, hf, hi, hb, hk⟩ := hpo.get
    have HF := Lib.hid (FmQ.ofS (g6 := w6.heap.size) hf HD.out.ltW (.inr (Nat.le_refl _)))
    replace HLIST := Lib.hid (BdQ.ofS (g6 := w6.heap.size) (HLIST.out.keep hk HGL.out) HGL.out (.inr (Nat.le_refl _)))
    replace HR := Lib.hid (hk.blk HR.out (fun e => HGR.out e.symm) (by simp))
    replace HD := Lib.hid (HD.out.call hi hb hk)
    clear hi hb hk hf hpo
    go_wp2_with fail
    have bn := below_new w6 (.cells #[.int .i64 a.f0, .string a.f1, .int .i64 a.f2, .slice A_3 a.f3.length A_c3, .slice A_4 a.f4.length A_c4] 30)
    have HGB := Lib.hid (show w6.heap.size ≠ g from by have := HD.out.ltW; omega)
    have HGB3 := Lib.hid (show g < w6.heap.size from HD.out.ltW)
    have HGB4 := Lib.hid (show w2.heap.size ≤ w6.heap.size from HD.out.size)
    have HGB2 := Lib.hid (show w.heap.size < w6.heap.size from by have := HD.out.size; have := HRL.out; omega)
    refine (pick_at HE3.out g w _ (HD.out.later bn).is (HD.out.later bn).b).mono ?_
    rintro e w7 ⟨rfl, hi, hb, hk⟩
    have HK := Lib.hid (show w7.heap[w6.heap.size]? = some (.cells #[.int .i64 a.f0, .string a.f1, .int .i64 a.f2, .slice A_3 a.f3.length A_c3, .slice A_4 a.f4.length A_c4] 30) from hk.blk (blk_new w6 _) HGB.out (by simp))
    replace HF := Lib.hid ((HF.out.later bn).keep hk)
    replace HLIST := Lib.hid ((HLIST.out.later bn).keep hk)
    replace HR := Lib.hid (hk.blk (blk_below HR.out bn) (fun e => HGR.out e.symm) (by simp))
    replace HD := Lib.hid ((HD.out.later bn).call hi hb hk)
    clear hi hb hk bn
    have z3 := (fm_cells (blk_alloc HK.out (.cells #[.int .i64 1, .int .i64 2, .int .i64 3] 3 (0, 0)))).2.2.2.1
    have y3 := (fm_free (blk_alloc HK.out (.cells #[.int .i64 1, .int .i64 2, .int .i64 3] 3 (0, 0)))).2.2.2.1
    have HP := Lib.hid (sc123 HA'.out HF.out HLIST.out HR.out HD.out HK.out HGB3.out HGB2.out HGB4.out)
    go_wp2_with fail
    obtain ⟨S_3, S_c3, S_4, S_c4, hf, hli, hr2, hd, hk2⟩ := HP.out
    replace HF := Lib.hid hf
    replace HLIST := Lib.hid hli
    replace HR := Lib.hid hr2
    replace HD := Lib.hid hd
    replace HK := Lib.hid hk2
    clear hf hli hr2 hd hk2 HP z3 y3
    generalize (World.setCell (World.alloc w7 _) _ _) = wq at HF HLIST HR HD HK ⊢
    refine (pick_at HE16.out g w wq HD.out.is HD.out.b).mono ?_
    rintro e w8 ⟨rfl, hi, hb, hk⟩
    replace HF := Lib.hid (HF.out.keep hk)
    replace HLIST := Lib.hid (HLIST.out.keep hk)
    replace HR := Lib.hid (hk.blk HR.out (fun e => HGR.out e.symm) (by simp))
    replace HK := Lib.hid (hk.blk HK.out HGB.out (by simp))
    replace HD := Lib.hid (HD.out.call hi hb hk)
    clear hi hb hk
    go_wp2_with fail
    have HDD := Lib.hid (HD.out.later (below_drew (Below.refl _ _)))
    have HKD := Lib.hid (blk_drew HK.out)
    have HRD := Lib.hid (blk_drew HR.out)
    have HFD := Lib.hid (HF.out.later (below_drew (Below.refl _ _)))
    have HLD := Lib.hid (HLIST.out.later (below_drew (Below.refl _ _)))
    clear HK HR HF HLIST HD
    refine start_ (n := 10) (S := (fun W : World => W.cell? ⟨w6.heap.size, 0, none⟩ = some (.int .i64 a'.f0) ∧ W.cell? ⟨w6.heap.size, 1, none⟩ = some (.string a'.f1) ∧ W.cell? ⟨w6.heap.size, 2, none⟩ = some (.int .i64 a'.f2) ∧ W.cell? ⟨w6.heap.size, 3, none⟩ = some (.slice S_3 a'.f3.length S_c3) ∧ W.cell? ⟨w6.heap.size, 4, none⟩ = some (.slice S_4 a'.f4.length S_c4))) (ds := []) #[false, false, false, false, false, false, false, false, false, false] (by kernel_rfl) rfl rfl (fm_cells HKD.out) (fun hHeld => ?_)
    generalize w8.drew = wd at HDD HKD HRD HFD HLD hHeld ⊢
    refine pure_ (i := 0) (N := some 25) (v := ?_) (a' := ?_) #[true, false, false, false, false, false, false, false, false, false] rfl rfl (by kernel_rfl) (fun _ _ _ h => h) (Or.inl ⟨by rfl, ?_⟩) ?_ ?_
    rotate_left
    · intro w'
      go_simp
      with_reducible rfl
    rotate_left
    · simp only [Act.put, List.setIfInBounds_toArray, List.set_cons_zero, List.set_cons_succ, i64_w, i32_w]
      rfl
    refine pure_ (i := 1) (N := some 26) (v := ?_) (a' := ?_) #[true, true, false, false, false, false, false, false, false, false] rfl rfl (by kernel_rfl) (fun _ _ _ h => h) (Or.inl ⟨by rfl, ?_⟩) ?_ ?_
    rotate_left
    · intro w'
      go_simp
      with_reducible rfl
    rotate_left
    · simp only [Act.put, List.setIfInBounds_toArray, List.set_cons_zero, List.set_cons_succ, i64_w, i32_w]
      rfl
    refine pure_ (i := 2) (N := some 27) (v := ?_) (a' := ?_) #[true, true, true, false, false, false, false, false, false, false] rfl rfl (by kernel_rfl) (fun _ _ _ h => h) (Or.inl ⟨by rfl, ?_⟩) ?_ ?_
    rotate_left
    · intro w'
      go_simp
      with_reducible rfl
    rotate_left
    · simp only [Act.put, List.setIfInBounds_toArray, List.set_cons_zero, List.set_cons_succ, i64_w, i32_w]
      rfl
    refine pure_ (i := 5) (N := some 30) (v := ?_) (a' := ?_) #[true, true, true, false, false, true, false, false, false, false] rfl rfl (by kernel_rfl) (fun _ _ _ h => h) (Or.inl ⟨by rfl, ?_⟩) ?_ ?_
    rotate_left
    · intro w'
      go_simp
      with_reducible rfl
    rotate_left
    · simp only [Act.put, List.setIfInBounds_toArray, List.set_cons_zero, List.set_cons_succ, i64_w, i32_w]
      rfl
    refine take_ (i := 6) (N := some 31) (v := ?_) (a' := ?_) #[true, true, true, false, false, true, true, false, false, false] rfl rfl (by kernel_rfl) (fun _ _ _ h => h) (Or.inl ⟨by rfl, ?_⟩) hHeld ?_ ?_
    rotate_left
    · rintro w' ⟨s0, s1, s2, s3, s4⟩
      go_simp
      with_reducible rfl
    rotate_left
    · simp only [Act.put, List.setIfInBounds_toArray, List.set_cons_zero, List.set_cons_succ, i64_w, i32_w]
      rfl
    refine one_ (i := 3) (N := some 28) #[true, true, true, true, false, true, true, false, false, false] rfl rfl (by kernel_rfl) (by decide) (fun K hK => ?_)
    refine goes_ Try.func40 (by kernel_rfl) rfl #[.pointer (some ⟨g, 0, none⟩), .slice L_A bl.length L_c] (by rfl) rfl rfl (by (try simp only [List.map_toArray, List.map_cons, List.map_nil]); first | done | rfl) ?_
    refine (HW1.out g w wd L_A L_c HDD.out.is HDD.out.b HLD.out.now HLD.out.le).mono ?_
    rintro e w9 ⟨M_A, M_c, rfl, hbs, hi, hb, hk⟩
    have HMD := Lib.hid (BdQ.ofS (g6 := w6.heap.size) hbs HDD.out.ltW (.inl (blk_lt HKD.out)))
    clear hbs
    refine ⟨_, rfl, ?_⟩
    replace HKD := Lib.hid (hk.blk HKD.out HGB.out (by simp))
    replace HRD := Lib.hid (hk.blk HRD.out (fun e => HGR.out e.symm) (by simp))
    replace HFD := Lib.hid (HFD.out.keep hk)
    replace HDD := Lib.hid (HDD.out.call hi hb hk)
    clear hi hb hk
    refine hK.out _ _ (fm_cells HKD.out) (fun hHeld => ?_)
    clear hK K
    refine norm_ (a' := ?_) ?_ ?_
    rotate_left
    · show Act.put _ (some 28) _ = _
      simp only [Act.put, List.setIfInBounds_toArray, List.set_cons_zero, List.set_cons_succ, i64_w, i32_w]
      rfl
    refine one_ (i := 4) (N := some 29) #[true, true, true, true, true, true, true, false, false, false] rfl rfl (by kernel_rfl) (by decide) (fun K hK => ?_)
    refine goes_ Try.func40 (by kernel_rfl) rfl #[.pointer (some ⟨g, 0, none⟩), .slice M_A bl1.length M_c] (by rfl) rfl rfl (by (try simp only [List.map_toArray, List.map_cons, List.map_nil]); first | done | rfl) ?_
    refine (HW2.out g w w9 M_A M_c HDD.out.is HDD.out.b HMD.out.now HMD.out.le).mono ?_
    rintro e w10 ⟨N_A, N_c, rfl, hbs, hi, hb, hk⟩
    have HND := Lib.hid (BdQ.ofS (g6 := w6.heap.size) hbs HDD.out.ltW (.inl (blk_lt HKD.out)))
    clear hbs
    refine ⟨_, rfl, ?_⟩
    replace HKD := Lib.hid (hk.blk HKD.out HGB.out (by simp))
    replace HRD := Lib.hid (hk.blk HRD.out (fun e => HGR.out e.symm) (by simp))
    replace HFD := Lib.hid (HFD.out.keep hk)
    replace HDD := Lib.hid (HDD.out.call hi hb hk)
    clear hi hb hk
    refine hK.out _ _ (fm_cells HKD.out) (fun hHeld => ?_)
    clear hK K
    refine norm_ (a' := ?_) ?_ ?_
    rotate_left
    · show Act.put _ (some 29) _ = _
      simp only [Act.put, List.setIfInBounds_toArray, List.set_cons_zero, List.set_cons_succ, i64_w, i32_w]
      rfl
    refine one_ (i := 7) (N := some 32) #[true, true, true, true, true, true, true, true, false, false] rfl rfl (by kernel_rfl) (by decide) (fun K hK => ?_)
    refine goes_ Try.func80 (by kernel_rfl) rfl #[.pointer (some ⟨g, 0, none⟩), .agg #[.int .i64 a'.f0, .string a'.f1, .int .i64 a'.f2, .slice S_3 a'.f3.length S_c3, .slice S_4 a'.f4.length S_c4]] (by rfl) rfl rfl (by (try simp only [List.map_toArray, List.map_cons, List.map_nil]); first | done | rfl) ?_
    refine (HM.out g S_3 S_c3 S_4 S_c4 w w10 HDD.out.is HDD.out.b HFD.out.now).mono ?_
    intro e w11 hpo
    obtain ⟨Y_3, Y_c3, Y_4, Y_c4, rfl, hf, hi, hb, hk⟩ := hpo.get
    have HYD := Lib.hid (FmQ.ofS (g6 := w6.heap.size) hf HDD.out.ltW (.inl (blk_lt HKD.out)))
    clear hf hpo
    refine ⟨_, rfl, ?_⟩
    replace HKD := Lib.hid (hk.blk HKD.out HGB.out (by simp))
    replace HRD := Lib.hid (hk.blk HRD.out (fun e => HGR.out e.symm) (by simp))
    replace HFD := Lib.hid (HFD.out.keep hk)
    replace HND := Lib.hid (HND.out.keep hk)
    replace HDD := Lib.hid (HDD.out.call hi hb hk)
    clear hi hb hk
    refine hK.out _ _ (fm_cells HKD.out) (fun hHeld => ?_)
    clear hK K
    refine norm_ (a' := ?_) ?_ ?_
    rotate_left
    · show Act.put _ (some 32) _ = _
      simp only [Act.put, List.setIfInBounds_toArray, List.set_cons_zero, List.set_cons_succ, i64_w, i32_w]
      rfl
    refine pure_ (i := 8) (N := some 2) (v := ?_) (a' := ?_) #[true, true, true, true, true, true, true, true, true, false] rfl rfl (by kernel_rfl) (fun _ _ _ h => h) (Or.inl ⟨by rfl, ?_⟩) ?_ ?_
    rotate_left
    · intro w'
      go_simp
      with_reducible rfl
    rotate_left
    · simp only [Act.put, List.setIfInBounds_toArray, List.set_cons_zero, List.set_cons_succ, i64_w, i32_w]
      rfl
    obtain ⟨z0, z1, z2, z3, z4⟩ := fm_cells HRD.out
    obtain ⟨f0, f1, f2, f3, f4⟩ := fm_free HRD.out
    obtain ⟨st1, st2, st3⟩ := st5 HRD.out (.int .i64 y.f0) (.string y.f1) (.int .i64 y.f2) (.slice Y_3 y.f3.length Y_c3) (.slice Y_4 y.f4.length Y_c4)
    have K5 := Lib.hid ((st2 w6.heap.size (by have := HGB2.out; omega)).trans HKD.out)
    have R2 := Lib.hid st1
    have FA := Lib.hid (HYD.out.move (st3 0 w11 (Below.refl 0 _) (Nat.zero_le _)).size (fun b h1 _ h2 => st2 b (by have := HGE.out; omega)))
    have LL := Lib.hid (HND.out.move (st3 0 w11 (Below.refl 0 _) (Nat.zero_le _)).size (fun b h1 _ h2 => st2 b (by have := HGE.out; omega)))
    have BB := Lib.hid (st3 _ _ HDD.out.b (Nat.le_refl _))
    clear st1 st2 st3
    refine one_ (i := 9) (N := none) #[true, true, true, true, true, true, true, true, true, true] rfl rfl (by kernel_rfl) (by decide) (fun K hK => ?_)
    refine skip_ (w1 := ?_) (by rfl) rfl ?_ ?_
    rotate_left
    · go_simp
      rfl
    refine hK.out _ _ (fm_cells K5.out) (fun hHeld => ?_)
    clear hK K z0 z1 z2 z3 z4 f0 f1 f2 f3 f4
    generalize World.setCell (World.setCell (World.setCell (World.setCell (World.setCell w11 _ _) _ _) _ _) _ _) _ _ = wx at K5 R2 FA LL BB hHeld ⊢
    refine done_ (by kernel_rfl) ?_
    obtain ⟨z0, z1, z2, z3, z4⟩ := fm_cells R2.out
    try go_wp2_with fail
    refine bodyPost_ret (v := .tuple #[.slice N_A bl2.length N_c, .agg #[.int .i64 y.f0, .string y.f1, .int .i64 y.f2, .slice Y_3 y.f3.length Y_c3, .slice Y_4 y.f4.length Y_c4]]) (by simp [results, Try.results51, go_sem, z0, z1, z2, z3, z4]) rfl ?_
    exact ⟨_, _, _, _, _, _, rfl, LL.out.toS HGE.out, FA.out.toS HGE.out, BB.out⟩
  · have t3 : (v3 == 0) = true := beq_iff_eq.mpr v30
    have t16 : (v16 == 0) = false := beq_eq_false_iff_ne.mpr v160
    obtain ⟨a', ha'⟩ : ∃ a' : Fm, a' = ⟨a.f0, a.f1, a.f2, [1, 2, 3], a.f4⟩ := ⟨_, rfl⟩
    have hat' : a'.tot ≤ 200 := by rw [ha', Fm.tot_eq]; have := Fm.tot_eq a; simp only [List.length_cons, List.length_nil]; omega
    have has' : a'.size = 1 := by rw [ha', Fm.size_eq]; have := Fm.size_eq a; show 1 + sizes a.f4 = 1; omega
    refine ⟨bl, a', hbl.more (by omega), by omega, fun A c w hr hc => ?_⟩
    have HA' := Lib.hid ha'
    clear ha'
    clear hs hat' has' hq0 hq1 hq9 n1 hat has v30 v160 hbl
    go_enter Try.func51, Try.ntmps51
    go_wp2_with fail
    refine (HO.out A c w _ (below_new _ _) hr hc).mono ?_
    rintro e w2 ⟨g, rfl, hi, hb, hb2⟩
    obtain ⟨kr, hbw⟩ := one_new hb2
    have HD := Lib.hid (Dr.new hi hb)
    have HGR := Lib.hid (show g ≠ w.heap.size from Q.IsS78.ne_blk hi kr (by decide))
    have HGE := Lib.hid (show w.heap.size ≤ g from Q.IsS78.ge hi)
    have HR := Lib.hid kr
    have HRL := Lib.hid (blk_lt kr)
    clear hi hb hb2 kr hbw
    go_wp2_with fail
    refine (HDRAW.out g w w2 HD.out.is HD.out.b).mono ?_
    rintro e w3 ⟨L_A, L_c, rfl, hbs, hi, hb, hk⟩
    have HLIST := Lib.hid hbs
    have HGL := Lib.hid (show g < w2.heap.size from HD.out.lt)
    replace HR := Lib.hid (hk.blk HR.out (fun e => HGR.out e.symm) (by simp))
    replace HD := Lib.hid (HD.out.call hi hb hk)
    clear hbs hi hb hk
    go_wp2_with fail
    refine (of_lit (l := nm4) rfl (by simp) HE1.out g w w3 HD.out.is HD.out.b).mono ?_
    rintro e w4 ⟨rfl, hi, hb, hk⟩
    replace HLIST := Lib.hid (HLIST.out.keep hk HGL.out)
    replace HR := Lib.hid (hk.blk HR.out (fun e => HGR.out e.symm) (by simp))
    replace HD := Lib.hid (HD.out.call hi hb hk)
    clear hi hb hk
    go_wp2_with fail
    refine (l1Name_any nm w4).mono ?_
    rintro e w5 ⟨rfl, hb⟩
    replace HLIST := Lib.hid (HLIST.out.later hb)
    replace HR := Lib.hid (blk_below HR.out hb)
    replace HD := Lib.hid (HD.out.later hb)
    clear hb
    go_wp2_with fail
    refine (HS1.out g none 0 none 0 w w5 HD.out.is HD.out.b (lnm_in nm w5)).mono ?_
    intro e w6 hpo
    obtain ⟨A_3, A_c3, A_4, A_c4, rfl, hf, hi, hb, hk⟩ := hpo.get
    have HF := Lib.hid (FmQ.ofS (g6 := w6.heap.size) hf HD.out.ltW (.inr (Nat.le_refl _)))
    replace HLIST := Lib.hid (BdQ.ofS (g6 := w6.heap.size) (HLIST.out.keep hk HGL.out) HGL.out (.inr (Nat.le_refl _)))
    replace HR := Lib.hid (hk.blk HR.out (fun e => HGR.out e.symm) (by simp))
    replace HD := Lib.hid (HD.out.call hi hb hk)
    clear hi hb hk hf hpo
    go_wp2_with fail
    have bn := below_new w6 (.cells #[.int .i64 a.f0, .string a.f1, .int .i64 a.f2, .slice A_3 a.f3.length A_c3, .slice A_4 a.f4.length A_c4] 30)
    have HGB := Lib.hid (show w6.heap.size ≠ g from by have := HD.out.ltW; omega)
    have HGB3 := Lib.hid (show g < w6.heap.size from HD.out.ltW)
    have HGB4 := Lib.hid (show w2.heap.size ≤ w6.heap.size from HD.out.size)
    have HGB2 := Lib.hid (show w.heap.size < w6.heap.size from by have := HD.out.size; have := HRL.out; omega)
    refine (pick_at HE3.out g w _ (HD.out.later bn).is (HD.out.later bn).b).mono ?_
    rintro e w7 ⟨rfl, hi, hb, hk⟩
    have HK := Lib.hid (show w7.heap[w6.heap.size]? = some (.cells #[.int .i64 a.f0, .string a.f1, .int .i64 a.f2, .slice A_3 a.f3.length A_c3, .slice A_4 a.f4.length A_c4] 30) from hk.blk (blk_new w6 _) HGB.out (by simp))
    replace HF := Lib.hid ((HF.out.later bn).keep hk)
    replace HLIST := Lib.hid ((HLIST.out.later bn).keep hk)
    replace HR := Lib.hid (hk.blk (blk_below HR.out bn) (fun e => HGR.out e.symm) (by simp))
    replace HD := Lib.hid ((HD.out.later bn).call hi hb hk)
    clear hi hb hk bn
    have z3 := (fm_cells (blk_alloc HK.out (.cells #[.int .i64 1, .int .i64 2, .int .i64 3] 3 (0, 0)))).2.2.2.1
    have y3 := (fm_free (blk_alloc HK.out (.cells #[.int .i64 1, .int .i64 2, .int .i64 3] 3 (0, 0)))).2.2.2.1
    have HP := Lib.hid (sc123 HA'.out HF.out HLIST.out HR.out HD.out HK.out HGB3.out HGB2.out HGB4.out)
    go_wp2_with fail
    obtain ⟨S_3, S_c3, S_4, S_c4, hf, hli, hr2, hd, hk2⟩ := HP.out
    replace HF := Lib.hid hf
    replace HLIST := Lib.hid hli
    replace HR := Lib.hid hr2
    replace HD := Lib.hid hd
    replace HK := Lib.hid hk2
    clear hf hli hr2 hd hk2 HP z3 y3
    generalize (World.setCell (World.alloc w7 _) _ _) = wq at HF HLIST HR HD HK ⊢
    refine (pick_at HE16.out g w wq HD.out.is HD.out.b).mono ?_
    rintro e w8 ⟨rfl, hi, hb, hk⟩
    replace HF := Lib.hid (HF.out.keep hk)
    replace HLIST := Lib.hid (HLIST.out.keep hk)
    replace HR := Lib.hid (hk.blk HR.out (fun e => HGR.out e.symm) (by simp))
    replace HK := Lib.hid (hk.blk HK.out HGB.out (by simp))
    replace HD := Lib.hid (HD.out.call hi hb hk)
    clear hi hb hk
    go_wp2_with fail
    have HDD := Lib.hid (HD.out.later (below_drew (Below.refl _ _)))
    have HKD := Lib.hid (blk_drew HK.out)
    have HRD := Lib.hid (blk_drew HR.out)
    have HFD := Lib.hid (HF.out.later (below_drew (Below.refl _ _)))
    have HLD := Lib.hid (HLIST.out.later (below_drew (Below.refl _ _)))
    clear HK HR HF HLIST HD
    refine start_ (n := 4) (S := (fun W : World => W.cell? ⟨w6.heap.size, 0, none⟩ = some (.int .i64 a'.f0) ∧ W.cell? ⟨w6.heap.size, 1, none⟩ = some (.string a'.f1) ∧ W.cell? ⟨w6.heap.size, 2, none⟩ = some (.int .i64 a'.f2) ∧ W.cell? ⟨w6.heap.size, 3, none⟩ = some (.slice S_3 a'.f3.length S_c3) ∧ W.cell? ⟨w6.heap.size, 4, none⟩ = some (.slice S_4 a'.f4.length S_c4))) (ds := []) #[false, false, false, false] (by kernel_rfl) rfl rfl (fm_cells HKD.out) (fun hHeld => ?_)
    generalize w8.drew = wd at HDD HKD HRD HFD HLD hHeld ⊢
    refine pure_ (i := 0) (N := some 33) (v := ?_) (a' := ?_) #[true, false, false, false] rfl rfl (by kernel_rfl) (fun _ _ _ h => h) (Or.inl ⟨by rfl, ?_⟩) ?_ ?_
    rotate_left
    · intro w'
      go_simp
      with_reducible rfl
    rotate_left
    · simp only [Act.put, List.setIfInBounds_toArray, List.set_cons_zero, List.set_cons_succ, i64_w, i32_w]
      rfl
    refine take_ (i := 1) (N := some 34) (v := ?_) (a' := ?_) #[true, true, false, false] rfl rfl (by kernel_rfl) (fun _ _ _ h => h) (Or.inl ⟨by rfl, ?_⟩) hHeld ?_ ?_
    rotate_left
    · rintro w' ⟨s0, s1, s2, s3, s4⟩
      go_simp
      with_reducible rfl
    rotate_left
    · simp only [Act.put, List.setIfInBounds_toArray, List.set_cons_zero, List.set_cons_succ, i64_w, i32_w]
      rfl
    refine pure_ (i := 2) (N := some 2) (v := ?_) (a' := ?_) #[true, true, true, false] rfl rfl (by kernel_rfl) (fun _ _ _ h => h) (Or.inl ⟨by rfl, ?_⟩) ?_ ?_
    rotate_left
    · intro w'
      go_simp
      with_reducible rfl
    rotate_left
    · simp only [Act.put, List.setIfInBounds_toArray, List.set_cons_zero, List.set_cons_succ, i64_w, i32_w]
      rfl
    obtain ⟨z0, z1, z2, z3, z4⟩ := fm_cells HRD.out
    obtain ⟨f0, f1, f2, f3, f4⟩ := fm_free HRD.out
    obtain ⟨st1, st2, st3⟩ := st5 HRD.out (.int .i64 a'.f0) (.string a'.f1) (.int .i64 a'.f2) (.slice S_3 a'.f3.length S_c3) (.slice S_4 a'.f4.length S_c4)
    have K5 := Lib.hid ((st2 w6.heap.size (by have := HGB2.out; omega)).trans HKD.out)
    have R2 := Lib.hid st1
    have FA := Lib.hid (HFD.out.move (st3 0 wd (Below.refl 0 _) (Nat.zero_le _)).size (fun b h1 _ h2 => st2 b (by have := HGE.out; omega)))
    have LL := Lib.hid (HLD.out.move (st3 0 wd (Below.refl 0 _) (Nat.zero_le _)).size (fun b h1 _ h2 => st2 b (by have := HGE.out; omega)))
    have BB := Lib.hid (st3 _ _ HDD.out.b (Nat.le_refl _))
    clear st1 st2 st3
    refine one_ (i := 3) (N := none) #[true, true, true, true] rfl rfl (by kernel_rfl) (by decide) (fun K hK => ?_)
    refine skip_ (w1 := ?_) (by rfl) rfl ?_ ?_
    rotate_left
    · go_simp
      rfl
    refine hK.out _ _ (fm_cells K5.out) (fun hHeld => ?_)
    clear hK K z0 z1 z2 z3 z4 f0 f1 f2 f3 f4
    generalize World.setCell (World.setCell (World.setCell (World.setCell (World.setCell wd _ _) _ _) _ _) _ _) _ _ = wx at K5 R2 FA LL BB hHeld ⊢
    refine done_ (by kernel_rfl) ?_
    obtain ⟨z0, z1, z2, z3, z4⟩ := fm_cells R2.out
    try go_wp2_with fail
    refine bodyPost_ret (v := .tuple #[.slice L_A bl.length L_c, .agg #[.int .i64 a'.f0, .string a'.f1, .int .i64 a'.f2, .slice S_3 a'.f3.length S_c3, .slice S_4 a'.f4.length S_c4]]) (by simp [results, Try.results51, go_sem, z0, z1, z2, z3, z4]) rfl ?_
    exact ⟨_, _, _, _, _, _, rfl, LL.out.toS HGE.out, FA.out.toS HGE.out, BB.out⟩
  · have t3 : (v3 == 0) = false := beq_eq_false_iff_ne.mpr v30
    have t16 : (v16 == 0) = true := beq_iff_eq.mpr v160
    obtain ⟨bl1, q3, hq3, hb1, hw1⟩ := l3Wrong_ex hs bl 100 hbl (by omega) (q1 + 1 + 1) (by omega)
    obtain ⟨bl2, q4, hq4, hb2, hw2⟩ := l3Wrong_ex hs bl1 101 hb1 (by omega) q3 (by omega)
    obtain ⟨y, q5, hq5, ht5, _, hm⟩ := mutate_ex hs a (by omega) q4 (by omega)
    refine ⟨bl2, y, hb2, by omega, fun A c w hr hc => ?_⟩
    have HW1 := Lib.hid hw1
    have HW2 := Lib.hid hw2
    have HM := Lib.hid hm
    clear hw1 hw2 hm hb1 hb2 hq3 hq4 hq5 ht5
    clear hs hq0 hq1 hq9 n1 hat has v30 v160 hbl
    go_enter Try.func51, Try.ntmps51
    go_wp2_with fail
    refine (HO.out A c w _ (below_new _ _) hr hc).mono ?_
    rintro e w2 ⟨g, rfl, hi, hb, hb2⟩
    obtain ⟨kr, hbw⟩ := one_new hb2
    have HD := Lib.hid (Dr.new hi hb)
    have HGR := Lib.hid (show g ≠ w.heap.size from Q.IsS78.ne_blk hi kr (by decide))
    have HGE := Lib.hid (show w.heap.size ≤ g from Q.IsS78.ge hi)
    have HR := Lib.hid kr
    have HRL := Lib.hid (blk_lt kr)
    clear hi hb hb2 kr hbw
    go_wp2_with fail
    refine (HDRAW.out g w w2 HD.out.is HD.out.b).mono ?_
    rintro e w3 ⟨L_A, L_c, rfl, hbs, hi, hb, hk⟩
    have HLIST := Lib.hid hbs
    have HGL := Lib.hid (show g < w2.heap.size from HD.out.lt)
    replace HR := Lib.hid (hk.blk HR.out (fun e => HGR.out e.symm) (by simp))
    replace HD := Lib.hid (HD.out.call hi hb hk)
    clear hbs hi hb hk
    go_wp2_with fail
    refine (of_lit (l := nm4) rfl (by simp) HE1.out g w w3 HD.out.is HD.out.b).mono ?_
    rintro e w4 ⟨rfl, hi, hb, hk⟩
    replace HLIST := Lib.hid (HLIST.out.keep hk HGL.out)
    replace HR := Lib.hid (hk.blk HR.out (fun e => HGR.out e.symm) (by simp))
    replace HD := Lib.hid (HD.out.call hi hb hk)
    clear hi hb hk
    go_wp2_with fail
    refine (l1Name_any nm w4).mono ?_
    rintro e w5 ⟨rfl, hb⟩
    replace HLIST := Lib.hid (HLIST.out.later hb)
    replace HR := Lib.hid (blk_below HR.out hb)
    replace HD := Lib.hid (HD.out.later hb)
    clear hb
    go_wp2_with fail
    refine (HS1.out g none 0 none 0 w w5 HD.out.is HD.out.b (lnm_in nm w5)).mono ?_
    intro e w6 hpo
    obtain ⟨A_3, A_c3, A_4, A_c4, rfl, hf, hi, hb, hk⟩ := hpo.get
    have HF := Lib.hid (FmQ.ofS (g6 := w6.heap.size) hf HD.out.ltW (.inr (Nat.le_refl _)))
    replace HLIST := Lib.hid (BdQ.ofS (g6 := w6.heap.size) (HLIST.out.keep hk HGL.out) HGL.out (.inr (Nat.le_refl _)))
    replace HR := Lib.hid (hk.blk HR.out (fun e => HGR.out e.symm) (by simp))
    replace HD := Lib.hid (HD.out.call hi hb hk)
    clear hi hb hk hf hpo
    go_wp2_with fail
    have bn := below_new w6 (.cells #[.int .i64 a.f0, .string a.f1, .int .i64 a.f2, .slice A_3 a.f3.length A_c3, .slice A_4 a.f4.length A_c4] 30)
    have HGB := Lib.hid (show w6.heap.size ≠ g from by have := HD.out.ltW; omega)
    have HGB3 := Lib.hid (show g < w6.heap.size from HD.out.ltW)
    have HGB4 := Lib.hid (show w2.heap.size ≤ w6.heap.size from HD.out.size)
    have HGB2 := Lib.hid (show w.heap.size < w6.heap.size from by have := HD.out.size; have := HRL.out; omega)
    refine (pick_at HE3.out g w _ (HD.out.later bn).is (HD.out.later bn).b).mono ?_
    rintro e w7 ⟨rfl, hi, hb, hk⟩
    have HK := Lib.hid (show w7.heap[w6.heap.size]? = some (.cells #[.int .i64 a.f0, .string a.f1, .int .i64 a.f2, .slice A_3 a.f3.length A_c3, .slice A_4 a.f4.length A_c4] 30) from hk.blk (blk_new w6 _) HGB.out (by simp))
    replace HF := Lib.hid ((HF.out.later bn).keep hk)
    replace HLIST := Lib.hid ((HLIST.out.later bn).keep hk)
    replace HR := Lib.hid (hk.blk (blk_below HR.out bn) (fun e => HGR.out e.symm) (by simp))
    replace HD := Lib.hid ((HD.out.later bn).call hi hb hk)
    clear hi hb hk bn
    go_wp2_with fail
    refine (pick_at HE16.out g w w7 HD.out.is HD.out.b).mono ?_
    rintro e w8 ⟨rfl, hi, hb, hk⟩
    replace HF := Lib.hid (HF.out.keep hk)
    replace HLIST := Lib.hid (HLIST.out.keep hk)
    replace HR := Lib.hid (hk.blk HR.out (fun e => HGR.out e.symm) (by simp))
    replace HK := Lib.hid (hk.blk HK.out HGB.out (by simp))
    replace HD := Lib.hid (HD.out.call hi hb hk)
    clear hi hb hk
    go_wp2_with fail
    have HDD := Lib.hid (HD.out.later (below_drew (Below.refl _ _)))
    have HKD := Lib.hid (blk_drew HK.out)
    have HRD := Lib.hid (blk_drew HR.out)
    have HFD := Lib.hid (HF.out.later (below_drew (Below.refl _ _)))
    have HLD := Lib.hid (HLIST.out.later (below_drew (Below.refl _ _)))
    clear HK HR HF HLIST HD
    refine start_ (n := 10) (S := (fun W : World => W.cell? ⟨w6.heap.size, 0, none⟩ = some (.int .i64 a.f0) ∧ W.cell? ⟨w6.heap.size, 1, none⟩ = some (.string a.f1) ∧ W.cell? ⟨w6.heap.size, 2, none⟩ = some (.int .i64 a.f2) ∧ W.cell? ⟨w6.heap.size, 3, none⟩ = some (.slice A_3 a.f3.length A_c3) ∧ W.cell? ⟨w6.heap.size, 4, none⟩ = some (.slice A_4 a.f4.length A_c4))) (ds := []) #[false, false, false, false, false, false, false, false, false, false] (by kernel_rfl) rfl rfl (fm_cells HKD.out) (fun hHeld => ?_)
    generalize w8.drew = wd at HDD HKD HRD HFD HLD hHeld ⊢
    refine pure_ (i := 0) (N := some 25) (v := ?_) (a' := ?_) #[true, false, false, false, false, false, false, false, false, false] rfl rfl (by kernel_rfl) (fun _ _ _ h => h) (Or.inl ⟨by rfl, ?_⟩) ?_ ?_
    rotate_left
    · intro w'
      go_simp
      with_reducible rfl
    rotate_left
    · simp only [Act.put, List.setIfInBounds_toArray, List.set_cons_zero, List.set_cons_succ, i64_w, i32_w]
      rfl
    refine pure_ (i := 1) (N := some 26) (v := ?_) (a' := ?_) #[true, true, false, false, false, false, false, false, false, false] rfl rfl (by kernel_rfl) (fun _ _ _ h => h) (Or.inl ⟨by rfl, ?_⟩) ?_ ?_
    rotate_left
    · intro w'
      go_simp
      with_reducible rfl
    rotate_left
    · simp only [Act.put, List.setIfInBounds_toArray, List.set_cons_zero, List.set_cons_succ, i64_w, i32_w]
      rfl
    refine pure_ (i := 2) (N := some 27) (v := ?_) (a' := ?_) #[true, true, true, false, false, false, false, false, false, false] rfl rfl (by kernel_rfl) (fun _ _ _ h => h) (Or.inl ⟨by rfl, ?_⟩) ?_ ?_
    rotate_left
    · intro w'
      go_simp
      with_reducible rfl
    rotate_left
    · simp only [Act.put, List.setIfInBounds_toArray, List.set_cons_zero, List.set_cons_succ, i64_w, i32_w]
      rfl
    refine pure_ (i := 5) (N := some 30) (v := ?_) (a' := ?_) #[true, true, true, false, false, true, false, false, false, false] rfl rfl (by kernel_rfl) (fun _ _ _ h => h) (Or.inl ⟨by rfl, ?_⟩) ?_ ?_
    rotate_left
    · intro w'
      go_simp
      with_reducible rfl
    rotate_left
    · simp only [Act.put, List.setIfInBounds_toArray, List.set_cons_zero, List.set_cons_succ, i64_w, i32_w]
      rfl
    refine take_ (i := 6) (N := some 31) (v := ?_) (a' := ?_) #[true, true, true, false, false, true, true, false, false, false] rfl rfl (by kernel_rfl) (fun _ _ _ h => h) (Or.inl ⟨by rfl, ?_⟩) hHeld ?_ ?_
    rotate_left
    · rintro w' ⟨s0, s1, s2, s3, s4⟩
      go_simp
      with_reducible rfl
    rotate_left
    · simp only [Act.put, List.setIfInBounds_toArray, List.set_cons_zero, List.set_cons_succ, i64_w, i32_w]
      rfl
    refine one_ (i := 3) (N := some 28) #[true, true, true, true, false, true, true, false, false, false] rfl rfl (by kernel_rfl) (by decide) (fun K hK => ?_)
    refine goes_ Try.func40 (by kernel_rfl) rfl #[.pointer (some ⟨g, 0, none⟩), .slice L_A bl.length L_c] (by rfl) rfl rfl (by (try simp only [List.map_toArray, List.map_cons, List.map_nil]); first | done | rfl) ?_
    refine (HW1.out g w wd L_A L_c HDD.out.is HDD.out.b HLD.out.now HLD.out.le).mono ?_
    rintro e w9 ⟨M_A, M_c, rfl, hbs, hi, hb, hk⟩
    have HMD := Lib.hid (BdQ.ofS (g6 := w6.heap.size) hbs HDD.out.ltW (.inl (blk_lt HKD.out)))
    clear hbs
    refine ⟨_, rfl, ?_⟩
    replace HKD := Lib.hid (hk.blk HKD.out HGB.out (by simp))
    replace HRD := Lib.hid (hk.blk HRD.out (fun e => HGR.out e.symm) (by simp))
    replace HFD := Lib.hid (HFD.out.keep hk)
    replace HDD := Lib.hid (HDD.out.call hi hb hk)
    clear hi hb hk
    refine hK.out _ _ (fm_cells HKD.out) (fun hHeld => ?_)
    clear hK K
    refine norm_ (a' := ?_) ?_ ?_
    rotate_left
    · show Act.put _ (some 28) _ = _
      simp only [Act.put, List.setIfInBounds_toArray, List.set_cons_zero, List.set_cons_succ, i64_w, i32_w]
      rfl
    refine one_ (i := 4) (N := some 29) #[true, true, true, true, true, true, true, false, false, false] rfl rfl (by kernel_rfl) (by decide) (fun K hK => ?_)
    refine goes_ Try.func40 (by kernel_rfl) rfl #[.pointer (some ⟨g, 0, none⟩), .slice M_A bl1.length M_c] (by rfl) rfl rfl (by (try simp only [List.map_toArray, List.map_cons, List.map_nil]); first | done | rfl) ?_
    refine (HW2.out g w w9 M_A M_c HDD.out.is HDD.out.b HMD.out.now HMD.out.le).mono ?_
    rintro e w10 ⟨N_A, N_c, rfl, hbs, hi, hb, hk⟩
    have HND := Lib.hid (BdQ.ofS (g6 := w6.heap.size) hbs HDD.out.ltW (.inl (blk_lt HKD.out)))
    clear hbs
    refine ⟨_, rfl, ?_⟩
    replace HKD := Lib.hid (hk.blk HKD.out HGB.out (by simp))
    replace HRD := Lib.hid (hk.blk HRD.out (fun e => HGR.out e.symm) (by simp))
    replace HFD := Lib.hid (HFD.out.keep hk)
    replace HDD := Lib.hid (HDD.out.call hi hb hk)
    clear hi hb hk
    refine hK.out _ _ (fm_cells HKD.out) (fun hHeld => ?_)
    clear hK K
    refine norm_ (a' := ?_) ?_ ?_
    rotate_left
    · show Act.put _ (some 29) _ = _
      simp only [Act.put, List.setIfInBounds_toArray, List.set_cons_zero, List.set_cons_succ, i64_w, i32_w]
      rfl
    refine one_ (i := 7) (N := some 32) #[true, true, true, true, true, true, true, true, false, false] rfl rfl (by kernel_rfl) (by decide) (fun K hK => ?_)
    refine goes_ Try.func80 (by kernel_rfl) rfl #[.pointer (some ⟨g, 0, none⟩), .agg #[.int .i64 a.f0, .string a.f1, .int .i64 a.f2, .slice A_3 a.f3.length A_c3, .slice A_4 a.f4.length A_c4]] (by rfl) rfl rfl (by (try simp only [List.map_toArray, List.map_cons, List.map_nil]); first | done | rfl) ?_
    refine (HM.out g A_3 A_c3 A_4 A_c4 w w10 HDD.out.is HDD.out.b HFD.out.now).mono ?_
    intro e w11 hpo
    obtain ⟨Y_3, Y_c3, Y_4, Y_c4, rfl, hf, hi, hb, hk⟩ := hpo.get
    have HYD := Lib.hid (FmQ.ofS (g6 := w6.heap.size) hf HDD.out.ltW (.inl (blk_lt HKD.out)))
    clear hf hpo
    refine ⟨_, rfl, ?_⟩
    replace HKD := Lib.hid (hk.blk HKD.out HGB.out (by simp))
    replace HRD := Lib.hid (hk.blk HRD.out (fun e => HGR.out e.symm) (by simp))
    replace HFD := Lib.hid (HFD.out.keep hk)
    replace HND := Lib.hid (HND.out.keep hk)
    replace HDD := Lib.hid (HDD.out.call hi hb hk)
    clear hi hb hk
    refine hK.out _ _ (fm_cells HKD.out) (fun hHeld => ?_)
    clear hK K
    refine norm_ (a' := ?_) ?_ ?_
    rotate_left
    · show Act.put _ (some 32) _ = _
      simp only [Act.put, List.setIfInBounds_toArray, List.set_cons_zero, List.set_cons_succ, i64_w, i32_w]
      rfl
    refine pure_ (i := 8) (N := some 2) (v := ?_) (a' := ?_) #[true, true, true, true, true, true, true, true, true, false] rfl rfl (by kernel_rfl) (fun _ _ _ h => h) (Or.inl ⟨by rfl, ?_⟩) ?_ ?_
    rotate_left
    · intro w'
      go_simp
      with_reducible rfl
    rotate_left
    · simp only [Act.put, List.setIfInBounds_toArray, List.set_cons_zero, List.set_cons_succ, i64_w, i32_w]
      rfl
    obtain ⟨z0, z1, z2, z3, z4⟩ := fm_cells HRD.out
    obtain ⟨f0, f1, f2, f3, f4⟩ := fm_free HRD.out
    obtain ⟨st1, st2, st3⟩ := st5 HRD.out (.int .i64 y.f0) (.string y.f1) (.int .i64 y.f2) (.slice Y_3 y.f3.length Y_c3) (.slice Y_4 y.f4.length Y_c4)
    have K5 := Lib.hid ((st2 w6.heap.size (by have := HGB2.out; omega)).trans HKD.out)
    have R2 := Lib.hid st1
    have FA := Lib.hid (HYD.out.move (st3 0 w11 (Below.refl 0 _) (Nat.zero_le _)).size (fun b h1 _ h2 => st2 b (by have := HGE.out; omega)))
    have LL := Lib.hid (HND.out.move (st3 0 w11 (Below.refl 0 _) (Nat.zero_le _)).size (fun b h1 _ h2 => st2 b (by have := HGE.out; omega)))
    have BB := Lib.hid (st3 _ _ HDD.out.b (Nat.le_refl _))
    clear st1 st2 st3
    refine one_ (i := 9) (N := none) #[true, true, true, true, true, true, true, true, true, true] rfl rfl (by kernel_rfl) (by decide) (fun K hK => ?_)
    refine skip_ (w1 := ?_) (by rfl) rfl ?_ ?_
    rotate_left
    · go_simp
      rfl
    refine hK.out _ _ (fm_cells K5.out) (fun hHeld => ?_)
    clear hK K z0 z1 z2 z3 z4 f0 f1 f2 f3 f4
    generalize World.setCell (World.setCell (World.setCell (World.setCell (World.setCell w11 _ _) _ _) _ _) _ _) _ _ = wx at K5 R2 FA LL BB hHeld ⊢
    refine done_ (by kernel_rfl) ?_
    obtain ⟨z0, z1, z2, z3, z4⟩ := fm_cells R2.out
    try go_wp2_with fail
    refine bodyPost_ret (v := .tuple #[.slice N_A bl2.length N_c, .agg #[.int .i64 y.f0, .string y.f1, .int .i64 y.f2, .slice Y_3 y.f3.length Y_c3, .slice Y_4 y.f4.length Y_c4]]) (by simp [results, Try.results51, go_sem, z0, z1, z2, z3, z4]) rfl ?_
    exact ⟨_, _, _, _, _, _, rfl, LL.out.toS HGE.out, FA.out.toS HGE.out, BB.out⟩
  · have t3 : (v3 == 0) = false := beq_eq_false_iff_ne.mpr v30
    have t16 : (v16 == 0) = false := beq_eq_false_iff_ne.mpr v160
    refine ⟨bl, a, hbl.more (by omega), by omega, fun A c w hr hc => ?_⟩
    clear hs hq0 hq1 hq9 n1 hat has v30 v160 hbl
    go_enter Try.func51, Try.ntmps51
    go_wp2_with fail
    refine (HO.out A c w _ (below_new _ _) hr hc).mono ?_
    rintro e w2 ⟨g, rfl, hi, hb, hb2⟩
    obtain ⟨kr, hbw⟩ := one_new hb2
    have HD := Lib.hid (Dr.new hi hb)
    have HGR := Lib.hid (show g ≠ w.heap.size from Q.IsS78.ne_blk hi kr (by decide))
    have HGE := Lib.hid (show w.heap.size ≤ g from Q.IsS78.ge hi)
    have HR := Lib.hid kr
    have HRL := Lib.hid (blk_lt kr)
    clear hi hb hb2 kr hbw
    go_wp2_with fail
    refine (HDRAW.out g w w2 HD.out.is HD.out.b).mono ?_
    rintro e w3 ⟨L_A, L_c, rfl, hbs, hi, hb, hk⟩
    have HLIST := Lib.hid hbs
    have HGL := Lib.hid (show g < w2.heap.size from HD.out.lt)
    replace HR := Lib.hid (hk.blk HR.out (fun e => HGR.out e.symm) (by simp))
    replace HD := Lib.hid (HD.out.call hi hb hk)
    clear hbs hi hb hk
    go_wp2_with fail
    refine (of_lit (l := nm4) rfl (by simp) HE1.out g w w3 HD.out.is HD.out.b).mono ?_
    rintro e w4 ⟨rfl, hi, hb, hk⟩
    replace HLIST := Lib.hid (HLIST.out.keep hk HGL.out)
    replace HR := Lib.hid (hk.blk HR.out (fun e => HGR.out e.symm) (by simp))
    replace HD := Lib.hid (HD.out.call hi hb hk)
    clear hi hb hk
    go_wp2_with fail
    refine (l1Name_any nm w4).mono ?_
    rintro e w5 ⟨rfl, hb⟩
    replace HLIST := Lib.hid (HLIST.out.later hb)
    replace HR := Lib.hid (blk_below HR.out hb)
    replace HD := Lib.hid (HD.out.later hb)
    clear hb
    go_wp2_with fail
    refine (HS1.out g none 0 none 0 w w5 HD.out.is HD.out.b (lnm_in nm w5)).mono ?_
    intro e w6 hpo
    obtain ⟨A_3, A_c3, A_4, A_c4, rfl, hf, hi, hb, hk⟩ := hpo.get
    have HF := Lib.hid (FmQ.ofS (g6 := w6.heap.size) hf HD.out.ltW (.inr (Nat.le_refl _)))
    replace HLIST := Lib.hid (BdQ.ofS (g6 := w6.heap.size) (HLIST.out.keep hk HGL.out) HGL.out (.inr (Nat.le_refl _)))
    replace HR := Lib.hid (hk.blk HR.out (fun e => HGR.out e.symm) (by simp))
    replace HD := Lib.hid (HD.out.call hi hb hk)
    clear hi hb hk hf hpo
    go_wp2_with fail
    have bn := below_new w6 (.cells #[.int .i64 a.f0, .string a.f1, .int .i64 a.f2, .slice A_3 a.f3.length A_c3, .slice A_4 a.f4.length A_c4] 30)
    have HGB := Lib.hid (show w6.heap.size ≠ g from by have := HD.out.ltW; omega)
    have HGB3 := Lib.hid (show g < w6.heap.size from HD.out.ltW)
    have HGB4 := Lib.hid (show w2.heap.size ≤ w6.heap.size from HD.out.size)
    have HGB2 := Lib.hid (show w.heap.size < w6.heap.size from by have := HD.out.size; have := HRL.out; omega)
    refine (pick_at HE3.out g w _ (HD.out.later bn).is (HD.out.later bn).b).mono ?_
    rintro e w7 ⟨rfl, hi, hb, hk⟩
    have HK := Lib.hid (show w7.heap[w6.heap.size]? = some (.cells #[.int .i64 a.f0, .string a.f1, .int .i64 a.f2, .slice A_3 a.f3.length A_c3, .slice A_4 a.f4.length A_c4] 30) from hk.blk (blk_new w6 _) HGB.out (by simp))
    replace HF := Lib.hid ((HF.out.later bn).keep hk)
    replace HLIST := Lib.hid ((HLIST.out.later bn).keep hk)
    replace HR := Lib.hid (hk.blk (blk_below HR.out bn) (fun e => HGR.out e.symm) (by simp))
    replace HD := Lib.hid ((HD.out.later bn).call hi hb hk)
    clear hi hb hk bn
    go_wp2_with fail
    refine (pick_at HE16.out g w w7 HD.out.is HD.out.b).mono ?_
    rintro e w8 ⟨rfl, hi, hb, hk⟩
    replace HF := Lib.hid (HF.out.keep hk)
    replace HLIST := Lib.hid (HLIST.out.keep hk)
    replace HR := Lib.hid (hk.blk HR.out (fun e => HGR.out e.symm) (by simp))
    replace HK := Lib.hid (hk.blk HK.out HGB.out (by simp))
    replace HD := Lib.hid (HD.out.call hi hb hk)
    clear hi hb hk
    go_wp2_with fail
    have HDD := Lib.hid (HD.out.later (below_drew (Below.refl _ _)))
    have HKD := Lib.hid (blk_drew HK.out)
    have HRD := Lib.hid (blk_drew HR.out)
    have HFD := Lib.hid (HF.out.later (below_drew (Below.refl _ _)))
    have HLD := Lib.hid (HLIST.out.later (below_drew (Below.refl _ _)))
    clear HK HR HF HLIST HD
    refine start_ (n := 4) (S := (fun W : World => W.cell? ⟨w6.heap.size, 0, none⟩ = some (.int .i64 a.f0) ∧ W.cell? ⟨w6.heap.size, 1, none⟩ = some (.string a.f1) ∧ W.cell? ⟨w6.heap.size, 2, none⟩ = some (.int .i64 a.f2) ∧ W.cell? ⟨w6.heap.size, 3, none⟩ = some (.slice A_3 a.f3.length A_c3) ∧ W.cell? ⟨w6.heap.size, 4, none⟩ = some (.slice A_4 a.f4.length A_c4))) (ds := []) #[false, false, false, false] (by kernel_rfl) rfl rfl (fm_cells HKD.out) (fun hHeld => ?_)
    generalize w8.drew = wd at HDD HKD HRD HFD HLD hHeld ⊢
    refine pure_ (i := 0) (N := some 33) (v := ?_) (a' := ?_) #[true, false, false, false] rfl rfl (by kernel_rfl) (fun _ _ _ h => h) (Or.inl ⟨by rfl, ?_⟩) ?_ ?_
    rotate_left
    · intro w'
      go_simp
      with_reducible rfl
    rotate_left
    · simp only [Act.put, List.setIfInBounds_toArray, List.set_cons_zero, List.set_cons_succ, i64_w, i32_w]
      rfl
    refine take_ (i := 1) (N := some 34) (v := ?_) (a' := ?_) #[true, true, false, false] rfl rfl (by kernel_rfl) (fun _ _ _ h => h) (Or.inl ⟨by rfl, ?_⟩) hHeld ?_ ?_
    rotate_left
    · rintro w' ⟨s0, s1, s2, s3, s4⟩
      go_simp
      with_reducible rfl
    rotate_left
    · simp only [Act.put, List.setIfInBounds_toArray, List.set_cons_zero, List.set_cons_succ, i64_w, i32_w]
      rfl
    refine pure_ (i := 2) (N := some 2) (v := ?_) (a' := ?_) #[true, true, true, false] rfl rfl (by kernel_rfl) (fun _ _ _ h => h) (Or.inl ⟨by rfl, ?_⟩) ?_ ?_
    rotate_left
    · intro w'
      go_simp
      with_reducible rfl
    rotate_left
    · simp only [Act.put, List.setIfInBounds_toArray, List.set_cons_zero, List.set_cons_succ, i64_w, i32_w]
      rfl
    obtain ⟨z0, z1, z2, z3, z4⟩ := fm_cells HRD.out
    obtain ⟨f0, f1, f2, f3, f4⟩ := fm_free HRD.out
    obtain ⟨st1, st2, st3⟩ := st5 HRD.out (.int .i64 a.f0) (.string a.f1) (.int .i64 a.f2) (.slice A_3 a.f3.length A_c3) (.slice A_4 a.f4.length A_c4)
    have K5 := Lib.hid ((st2 w6.heap.size (by have := HGB2.out; omega)).trans HKD.out)
    have R2 := Lib.hid st1
    have FA := Lib.hid (HFD.out.move (st3 0 wd (Below.refl 0 _) (Nat.zero_le _)).size (fun b h1 _ h2 => st2 b (by have := HGE.out; omega)))
    have LL := Lib.hid (HLD.out.move (st3 0 wd (Below.refl 0 _) (Nat.zero_le _)).size (fun b h1 _ h2 => st2 b (by have := HGE.out; omega)))
    have BB := Lib.hid (st3 _ _ HDD.out.b (Nat.le_refl _))
    clear st1 st2 st3
    refine one_ (i := 3) (N := none) #[true, true, true, true] rfl rfl (by kernel_rfl) (by decide) (fun K hK => ?_)
    refine skip_ (w1 := ?_) (by rfl) rfl ?_ ?_
    rotate_left
    · go_simp
      rfl
    refine hK.out _ _ (fm_cells K5.out) (fun hHeld => ?_)
    clear hK K z0 z1 z2 z3 z4 f0 f1 f2 f3 f4
    generalize World.setCell (World.setCell (World.setCell (World.setCell (World.setCell wd _ _) _ _) _ _) _ _) _ _ = wx at K5 R2 FA LL BB hHeld ⊢
    refine done_ (by kernel_rfl) ?_
    obtain ⟨z0, z1, z2, z3, z4⟩ := fm_cells R2.out
    try go_wp2_with fail
    refine bodyPost_ret (v := .tuple #[.slice L_A bl.length L_c, .agg #[.int .i64 a.f0, .string a.f1, .int .i64 a.f2, .slice A_3 a.f3.length A_c3, .slice A_4 a.f4.length A_c4]]) (by simp [results, Try.results51, go_sem, z0, z1, z2, z3, z4]) rfl ?_
    exact ⟨_, _, _, _, _, _, rfl, LL.out.toS HGE.out, FA.out.toS HGE.out, BB.out⟩
end Go.Proofs.Ytcbomlmlindjdaa
end
section
namespace Go.Proofs.Ytcbomlmlindjdaa
open Go.RowKit Go.Proofs.YtcbomlmlindjdaaW.PrintWords Go.Proofs.YtcbomlmlindjdaaW.PrintLast Go.Proofs.YtcbomlmlindjdaaW.PrintMore
set_option linter.unusedVariables false
set_option linter.unusedSimpArgs false
theorem BdS.far {lo : Nat} {w W : World} {l : List Bd} {A : Option Addr} {c k : Nat} (h : BdS lo w l A c) (hs : w.heap.size ≤ W.heap.size) (hm : ∀ b, b ≠ k → W.heap[b]? = w.heap[b]?) (hk : k < lo) : BdS lo W l A c := h.move hs (fun b h1 _ => hm b (by omega))
theorem FmS.far {lo : Nat} {w W : World} {x : Fm} {A3 A4 : Option Addr} {c3 c4 k : Nat} (h : FmS lo w x A3 c3 A4 c4) (hs : w.heap.size ≤ W.heap.size) (hm : ∀ b, b ≠ k → W.heap[b]? = w.heap[b]?) (hk : k < lo) : FmS lo W x A3 c3 A4 c4 := h.move hs (fun b h1 _ => hm b (by omega))
/-- Bindings and a form are handed back: they read. -/
def GetBf (w : World) (bl : List Bd) (x : Fm) (e : Ending) (w' : World) : Prop := ∃ A c A3 c3 A4 c4, e = .returned (.tuple #[.slice A bl.length c, .agg #[.int .i64 x.f0, .string x.f1, .int .i64 x.f2, .slice A3 x.f3.length c3, .slice A4 x.f4.length c4]]) ∧ bl.length ≤ c ∧ kB.C w' A bl.length bl ∧ FmIn w' x A3 c3 A4 c4 ∧ Below w.heap.size w w'
def GetBfn (w : World) (bl : List Bd) (x : Fm) (n : Int) (e : Ending) (w' : World) : Prop := ∃ A c A3 c3 A4 c4, e = .returned (.tuple #[.slice A bl.length c, .agg #[.int .i64 x.f0, .string x.f1, .int .i64 x.f2, .slice A3 x.f3.length c3, .slice A4 x.f4.length c4], .int .i64 n]) ∧ bl.length ≤ c ∧ kB.C w' A bl.length bl ∧ FmIn w' x A3 c3 A4 c4 ∧ Below w.heap.size w w'
def GetBff (w : World) (bl : List Bd) (x y : Fm) (e : Ending) (w' : World) : Prop := ∃ A c A3 c3 A4 c4 B3 d3 B4 d4, e = .returned (.tuple #[.slice A bl.length c, .agg #[.int .i64 x.f0, .string x.f1, .int .i64 x.f2, .slice A3 x.f3.length c3, .slice A4 x.f4.length c4], .agg #[.int .i64 y.f0, .string y.f1, .int .i64 y.f2, .slice B3 y.f3.length d3, .slice B4 y.f4.length d4]]) ∧ bl.length ≤ c ∧ kB.C w' A bl.length bl ∧ FmIn w' x A3 c3 A4 c4 ∧ FmIn w' y B3 d3 B4 d4 ∧ Below w.heap.size w w'
/-- Bindings are handed back. -/
def GetBl (w : World) (bl : List Bd) (e : Ending) (w' : World) : Prop := ∃ A c, e = .returned (.slice A bl.length c) ∧ bl.length ≤ c ∧ kB.C w' A bl.length bl ∧ Below w.heap.size w w'
set_option maxHeartbeats 4000000 in
set_option maxRecDepth 100000 in
theorem dDrawAddBind (l : List Int) (hl : ∀ z, z ∈ l → 0 ≤ z ∧ z < 256) : ∃ (bl : List Bd) (x : Fm) (n : Int), SmD 102 bl ∧ x.tot ≤ 7000 ∧ ∀ (A : Option Addr) (c : Nat) (w : World), (Kd.int .u8).C w A l.length l → l.length ≤ c → Calls Try.prog 21 #[.slice A l.length c] w (GetBfn w bl x n) := by
  obtain ⟨bl, x, h1, h2, hd⟩ := l3Case_ex l hl
  obtain ⟨s, hs, hopen⟩ := open_at l hl
  obtain ⟨n, _, en⟩ := ev_num hs 0 (by omega) [9, 1, 50, 999, 0, 1000] (by simp) (by simp)
  refine ⟨bl, x, n, h1, h2, fun A c w hr hc => ?_⟩
  have HC := Lib.hid (hd A c (w.alloc (.cells #[.int .i64 0, .string ⟨#[]⟩, .int .i64 0, .slice none 0 0, .slice none 0 0] 30)) (Kd.C_below hr (below_new _ _)) hc)
  have HO := Lib.hid hopen
  have HEN := Lib.hid en
  have HRD := Lib.hid hr
  clear hd hr hopen en hs h1 h2
  go_enter Try.func21, Try.ntmps21
  go_wp2_with fail
  refine HC.out.mono ?_
  rintro e w2 ⟨L_A, L_c, X_3, X_c3, X_4, X_c4, rfl, hbs, hf, hb⟩
  obtain ⟨kr, hbw⟩ := one_new hb
  have hlo : w.heap.size < (w.alloc (.cells #[.int .i64 0, .string ⟨#[]⟩, .int .i64 0, .slice none 0 0, .slice none 0 0] 30)).heap.size := by simp
  have b5 := below_new w2 (.cells #[.int .i64 x.f0, .string x.f1, .int .i64 x.f2, .slice X_3 x.f3.length X_c3, .slice X_4 x.f4.length X_c4] 30)
  have HR := Lib.hid (blk_below kr b5)
  have HRL := Lib.hid (blk_lt kr)
  have HF := Lib.hid (hf.later b5)
  have HL := Lib.hid (hbs.later b5)
  have HK := Lib.hid (blk_new w2 (.cells #[.int .i64 x.f0, .string x.f1, .int .i64 x.f2, .slice X_3 x.f3.length X_c3, .slice X_4 x.f4.length X_c4] 30))
  have HBW := Lib.hid (below_step hbw b5)
  have HLO := Lib.hid hlo
  have HSZ := Lib.hid (show (w2.alloc (.cells #[.int .i64 x.f0, .string x.f1, .int .i64 x.f2, .slice X_3 x.f3.length X_c3, .slice X_4 x.f4.length X_c4] 30)).heap.size = w2.heap.size + 1 from by simp)
  clear hbs hf hb kr hbw b5 hlo HC
  go_wp2_with fail
  have HDB := Lib.hid (below_drew (Below.refl (w2.alloc (.cells #[.int .i64 x.f0, .string x.f1, .int .i64 x.f2, .slice X_3 x.f3.length X_c3, .slice X_4 x.f4.length X_c4] 30)).heap.size (w2.alloc (.cells #[.int .i64 x.f0, .string x.f1, .int .i64 x.f2, .slice X_3 x.f3.length X_c3, .slice X_4 x.f4.length X_c4] 30))))
  replace HR := Lib.hid (blk_below HR.out HDB.out)
  replace HF := Lib.hid (HF.out.later HDB.out)
  replace HL := Lib.hid (HL.out.later HDB.out)
  replace HK := Lib.hid (blk_below HK.out HDB.out)
  replace HBW := Lib.hid (below_step HBW.out HDB.out)
  replace HSZ := Lib.hid (show (w2.alloc (.cells #[.int .i64 x.f0, .string x.f1, .int .i64 x.f2, .slice X_3 x.f3.length X_c3, .slice X_4 x.f4.length X_c4] 30)).drew.heap.size = w2.heap.size + 1 from HSZ.out)
  clear HDB
  refine start_ (n := 9) (S := (fun W : World => W.cell? ⟨w2.heap.size, 0, none⟩ = some (.int .i64 x.f0) ∧ W.cell? ⟨w2.heap.size, 1, none⟩ = some (.string x.f1) ∧ W.cell? ⟨w2.heap.size, 2, none⟩ = some (.int .i64 x.f2) ∧ W.cell? ⟨w2.heap.size, 3, none⟩ = some (.slice X_3 x.f3.length X_c3) ∧ W.cell? ⟨w2.heap.size, 4, none⟩ = some (.slice X_4 x.f4.length X_c4))) (ds := []) #[false, false, false, false, false, false, false, false, false] (by kernel_rfl) rfl rfl (fm_cells HK.out) (fun hHeld => ?_)
  generalize World.drew _ = wd at HR HF HL HK HBW HSZ hHeld ⊢
  refine pure_ (i := 0) (N := some 12) (v := ?_) (a' := ?_) #[true, false, false, false, false, false, false, false, false] rfl rfl (by kernel_rfl) (fun _ _ _ h => h) (Or.inl ⟨by rfl, ?_⟩) ?_ ?_
  rotate_left
  · intro w'
    go_simp
    with_reducible rfl
  rotate_left
  · simp only [Act.put, List.setIfInBounds_toArray, List.set_cons_zero, List.set_cons_succ, i64_w, i32_w]
    rfl
  refine take_ (i := 1) (N := some 13) (v := ?_) (a' := ?_) #[true, true, false, false, false, false, false, false, false] rfl rfl (by kernel_rfl) (fun _ _ _ h => h) (Or.inl ⟨by rfl, ?_⟩) hHeld ?_ ?_
  rotate_left
  · rintro w' ⟨s0, s1, s2, s3, s4⟩
    go_simp
    with_reducible rfl
  rotate_left
  · simp only [Act.put, List.setIfInBounds_toArray, List.set_cons_zero, List.set_cons_succ, i64_w, i32_w]
    rfl
  refine pure_ (i := 2) (N := some 14) (v := ?_) (a' := ?_) #[true, true, true, false, false, false, false, false, false] rfl rfl (by kernel_rfl) (fun _ _ _ h => h) (Or.inl ⟨by rfl, ?_⟩) ?_ ?_
  rotate_left
  · intro w'
    go_simp
    with_reducible rfl
  rotate_left
  · simp only [Act.put, List.setIfInBounds_toArray, List.set_cons_zero, List.set_cons_succ, i64_w, i32_w]
    rfl
  refine two_ (i := 3) (j := 4) (Ni := some 15) (Nj := some 16) #[true, true, true, true, false, false, false, false, false] #[true, true, true, false, true, false, false, false, false] rfl rfl rfl rfl (by kernel_rfl) (by decide) (by decide) (fun K hK => ?_) (fun K hK => ?_)
  · refine goes_ Try.func39 (by kernel_rfl) rfl #[.slice A l.length c] (by rfl) rfl rfl (by (try simp only [List.map_toArray, List.map_cons, List.map_nil]); first | done | rfl) ?_
    refine (HO.out A c wd wd (Below.refl _ _) (Kd.C_below HRD.out HBW.out) hc).mono ?_
    rintro e w6 ⟨g, rfl, hi, hb, hb2⟩
    refine ⟨_, rfl, ?_⟩
    have HD := Lib.hid (Dr.new hi hb)
    clear hi hb hb2
    refine hK.out _ _ (fm_cells (blk_below HK.out HD.out.b)) (fun hHeld => ?_)
    clear hK K
    refine norm_ (a' := ?_) ?_ ?_
    rotate_left
    · show Act.put _ (some 15) _ = _
      simp only [Act.put, List.setIfInBounds_toArray, List.set_cons_zero, List.set_cons_succ, i64_w, i32_w]
      rfl
    refine one_ (i := 4) (N := some 16) #[true, true, true, true, true, false, false, false, false] rfl rfl (by kernel_rfl) (by decide) (fun K hK => ?_)
    refine value_ (w1 := ?_) (v := ?_) (by rfl) rfl ?_ ?_
    rotate_left 2
    · go_simp
      constructor
      · rfl
      · rfl
    refine hK.out _ _ (fm_cells (blk_alloc (blk_below HK.out HD.out.b) _)) (fun hHeld => ?_)
    clear hK K
    refine norm_ (a' := ?_) ?_ ?_
    rotate_left
    · show Act.put _ (some 16) _ = _
      simp only [Act.put, List.setIfInBounds_toArray, List.set_cons_zero, List.set_cons_succ, i64_w, i32_w]
      rfl
    refine one_ (i := 5) (N := some 17) #[true, true, true, true, true, true, false, false, false] rfl rfl (by kernel_rfl) (by decide) (fun K hK => ?_)
    refine goes_ Try.func56 (by kernel_rfl) rfl #[.pointer (some ⟨g, 0, none⟩), .slice (some ⟨w6.heap.size, 0, none⟩) 6 6] (by rfl) rfl rfl (by (try simp only [List.map_toArray, List.map_cons, List.map_nil]); first | done | rfl) ?_
    refine (num_lit (l := [9, 1, 50, 999, 0, 1000]) rfl (by simp) HEN.out g wd w6 HD.out.is HD.out.b).mono ?_
    rintro e w7 ⟨rfl, hi, hb, hk⟩
    refine ⟨_, rfl, ?_⟩
    have HRz := Lib.hid (blk_below HR.out hb)
    have HKz := Lib.hid (blk_below HK.out hb)
    have HFz := Lib.hid (HF.out.later hb)
    have HLz := Lib.hid (HL.out.later hb)
    have HBz := Lib.hid (below_step HBW.out hb)
    clear hi hb hk
    refine hK.out _ _ (fm_cells HKz.out) (fun hHeld => ?_)
    clear hK K
    refine norm_ (a' := ?_) ?_ ?_
    rotate_left
    · show Act.put _ (some 17) _ = _
      simp only [Act.put, List.setIfInBounds_toArray, List.set_cons_zero, List.set_cons_succ, i64_w, i32_w]
      rfl
    refine pure_ (i := 6) (N := some 2) (v := ?_) (a' := ?_) #[true, true, true, true, true, true, true, false, false] rfl rfl (by kernel_rfl) (fun _ _ _ h => h) (Or.inl ⟨by rfl, ?_⟩) ?_ ?_
    rotate_left
    · intro w'
      go_simp
      with_reducible rfl
    rotate_left
    · simp only [Act.put, List.setIfInBounds_toArray, List.set_cons_zero, List.set_cons_succ, i64_w, i32_w]
      rfl
    obtain ⟨z0, z1, z2, z3, z4⟩ := fm_cells HRz.out
    obtain ⟨f0, f1, f2, f3, f4⟩ := fm_free HRz.out
    obtain ⟨st1, st2, st3⟩ := st5 HRz.out (.int .i64 x.f0) (.string x.f1) (.int .i64 x.f2) (.slice X_3 x.f3.length X_c3) (.slice X_4 x.f4.length X_c4)
    have K5 := Lib.hid ((st2 w2.heap.size (by have := HRL.out; omega)).trans HKz.out)
    have R2 := Lib.hid st1
    have FA := Lib.hid (HFz.out.far (st3 0 w7 (Below.refl 0 _) (Nat.zero_le _)).size (fun b h => st2 b h) HLO.out).now
    have LL := Lib.hid (HLz.out.far (st3 0 w7 (Below.refl 0 _) (Nat.zero_le _)).size (fun b h => st2 b h) HLO.out)
    have BB := Lib.hid (st3 _ _ HBz.out (Nat.le_refl _))
    clear st1 st2 st3
    refine one_ (i := 7) (N := none) #[true, true, true, true, true, true, true, true, false] rfl rfl (by kernel_rfl) (by decide) (fun K hK => ?_)
    refine skip_ (w1 := ?_) (by rfl) rfl ?_ ?_
    rotate_left
    · go_simp
      rfl
    refine hK.out _ _ (fm_cells K5.out) (fun hHeld => ?_)
    clear hK K z0 z1 z2 z3 z4 f0 f1 f2 f3 f4
    generalize World.setCell (World.setCell (World.setCell (World.setCell (World.setCell w7 _ _) _ _) _ _) _ _) _ _ = wx at K5 R2 FA LL BB hHeld ⊢
    refine pure_ (i := 8) (N := some 4) (v := ?_) (a' := ?_) #[true, true, true, true, true, true, true, true, true] rfl rfl (by kernel_rfl) (fun _ _ _ h => h) (Or.inl ⟨by rfl, ?_⟩) ?_ ?_
    rotate_left
    · intro w'
      go_simp
      with_reducible rfl
    rotate_left
    · simp only [Act.put, List.setIfInBounds_toArray, List.set_cons_zero, List.set_cons_succ, i64_w, i32_w]
      rfl
    refine done_ (by kernel_rfl) ?_
    obtain ⟨z0, z1, z2, z3, z4⟩ := fm_cells R2.out
    try go_wp2_with fail
    refine bodyPost_ret (v := .tuple #[.slice L_A bl.length L_c, .agg #[.int .i64 x.f0, .string x.f1, .int .i64 x.f2, .slice X_3 x.f3.length X_c3, .slice X_4 x.f4.length X_c4], .int .i64 n]) (by simp [results, Try.results21, go_sem, z0, z1, z2, z3, z4]) rfl ?_
    exact ⟨_, _, _, _, _, _, rfl, LL.out.le, LL.out.now, FA.out, BB.out⟩
  · refine value_ (w1 := ?_) (v := ?_) (by rfl) rfl ?_ ?_
    rotate_left 2
    · go_simp
      constructor
      · rfl
      · rfl
    refine hK.out _ _ (fm_cells (blk_alloc HK.out _)) (fun hHeld => ?_)
    clear hK K
    refine norm_ (a' := ?_) ?_ ?_
    rotate_left
    · show Act.put _ (some 16) _ = _
      simp only [Act.put, List.setIfInBounds_toArray, List.set_cons_zero, List.set_cons_succ, i64_w, i32_w]
      rfl
    have hbl := below_new wd (.cells #[.int .i64 9, .int .i64 1, .int .i64 50, .int .i64 999, .int .i64 0, .int .i64 1000] 3 (0, 0))
    have HLIT := Lib.hid (blk_new wd (.cells #[.int .i64 9, .int .i64 1, .int .i64 50, .int .i64 999, .int .i64 0, .int .i64 1000] 3 (0, 0)))
    replace HR := Lib.hid (blk_below HR.out hbl)
    replace HK := Lib.hid (blk_below HK.out hbl)
    replace HF := Lib.hid (HF.out.later hbl)
    replace HL := Lib.hid (HL.out.later hbl)
    replace HBW := Lib.hid (below_step HBW.out hbl)
    have HSZ2 := Lib.hid (show (wd.alloc (.cells #[.int .i64 9, .int .i64 1, .int .i64 50, .int .i64 999, .int .i64 0, .int .i64 1000] 3 (0, 0))).heap.size = wd.heap.size + 1 from by simp)
    clear hbl
    generalize wd.alloc _ = we at HR HK HF HL HBW HLIT HSZ2 hHeld ⊢
    refine one_ (i := 3) (N := some 15) #[true, true, true, true, true, false, false, false, false] rfl rfl (by kernel_rfl) (by decide) (fun K hK => ?_)
    refine goes_ Try.func39 (by kernel_rfl) rfl #[.slice A l.length c] (by rfl) rfl rfl (by (try simp only [List.map_toArray, List.map_cons, List.map_nil]); first | done | rfl) ?_
    refine (HO.out A c we we (Below.refl _ _) (Kd.C_below HRD.out HBW.out) hc).mono ?_
    rintro e w6 ⟨g, rfl, hi, hb, hb2⟩
    refine ⟨_, rfl, ?_⟩
    have HD := Lib.hid (Dr.new hi hb)
    have HNE := Lib.hid (show wd.heap.size ≠ g from by have := Q.IsS78.ge hi; have := HSZ2.out; omega)
    have HRB := Lib.hid (reads_block (l := [9, 1, 50, 999, 0, 1000]) (blk_below HLIT.out hb) (by simp) rfl)
    clear hi hb hb2
    refine hK.out _ _ (fm_cells (blk_below HK.out HD.out.b)) (fun hHeld => ?_)
    clear hK K
    refine norm_ (a' := ?_) ?_ ?_
    rotate_left
    · show Act.put _ (some 15) _ = _
      simp only [Act.put, List.setIfInBounds_toArray, List.set_cons_zero, List.set_cons_succ, i64_w, i32_w]
      rfl
    refine one_ (i := 5) (N := some 17) #[true, true, true, true, true, true, false, false, false] rfl rfl (by kernel_rfl) (by decide) (fun K hK => ?_)
    refine goes_ Try.func56 (by kernel_rfl) rfl #[.pointer (some ⟨g, 0, none⟩), .slice (some ⟨wd.heap.size, 0, none⟩) 6 6] (by rfl) rfl rfl (by (try simp only [List.map_toArray, List.map_cons, List.map_nil]); first | done | rfl) ?_
    obtain ⟨kn, hkn⟩ := HEN.out.rounds
    refine (Q.spec_l15Rd_num.calls kn g s _ (some ⟨wd.heap.size, 0, none⟩) _ [9, 1, 50, 999, 0, 1000] n _ we w6 HD.out.is HD.out.b HRB.out (Nat.le_refl _) (fun ad e _ => by cases e; exact HNE.out) hkn).mono ?_
    rintro e w7 ⟨rfl, hi, hb, hk⟩
    refine ⟨_, rfl, ?_⟩
    have HRz := Lib.hid (blk_below HR.out hb)
    have HKz := Lib.hid (blk_below HK.out hb)
    have HFz := Lib.hid (HF.out.later hb)
    have HLz := Lib.hid (HL.out.later hb)
    have HBz := Lib.hid (below_step HBW.out hb)
    clear hi hb hk hkn
    refine hK.out _ _ (fm_cells HKz.out) (fun hHeld => ?_)
    clear hK K
    refine norm_ (a' := ?_) ?_ ?_
    rotate_left
    · show Act.put _ (some 17) _ = _
      simp only [Act.put, List.setIfInBounds_toArray, List.set_cons_zero, List.set_cons_succ, i64_w, i32_w]
      rfl
    refine pure_ (i := 6) (N := some 2) (v := ?_) (a' := ?_) #[true, true, true, true, true, true, true, false, false] rfl rfl (by kernel_rfl) (fun _ _ _ h => h) (Or.inl ⟨by rfl, ?_⟩) ?_ ?_
    rotate_left
    · intro w'
      go_simp
      with_reducible rfl
    rotate_left
    · simp only [Act.put, List.setIfInBounds_toArray, List.set_cons_zero, List.set_cons_succ, i64_w, i32_w]
      rfl
    obtain ⟨z0, z1, z2, z3, z4⟩ := fm_cells HRz.out
    obtain ⟨f0, f1, f2, f3, f4⟩ := fm_free HRz.out
    obtain ⟨st1, st2, st3⟩ := st5 HRz.out (.int .i64 x.f0) (.string x.f1) (.int .i64 x.f2) (.slice X_3 x.f3.length X_c3) (.slice X_4 x.f4.length X_c4)
    have K5 := Lib.hid ((st2 w2.heap.size (by have := HRL.out; omega)).trans HKz.out)
    have R2 := Lib.hid st1
    have FA := Lib.hid (HFz.out.far (st3 0 w7 (Below.refl 0 _) (Nat.zero_le _)).size (fun b h => st2 b h) HLO.out).now
    have LL := Lib.hid (HLz.out.far (st3 0 w7 (Below.refl 0 _) (Nat.zero_le _)).size (fun b h => st2 b h) HLO.out)
    have BB := Lib.hid (st3 _ _ HBz.out (Nat.le_refl _))
    clear st1 st2 st3
    refine one_ (i := 7) (N := none) #[true, true, true, true, true, true, true, true, false] rfl rfl (by kernel_rfl) (by decide) (fun K hK => ?_)
    refine skip_ (w1 := ?_) (by rfl) rfl ?_ ?_
    rotate_left
    · go_simp
      rfl
    refine hK.out _ _ (fm_cells K5.out) (fun hHeld => ?_)
    clear hK K z0 z1 z2 z3 z4 f0 f1 f2 f3 f4
    generalize World.setCell (World.setCell (World.setCell (World.setCell (World.setCell w7 _ _) _ _) _ _) _ _) _ _ = wx at K5 R2 FA LL BB hHeld ⊢
    refine pure_ (i := 8) (N := some 4) (v := ?_) (a' := ?_) #[true, true, true, true, true, true, true, true, true] rfl rfl (by kernel_rfl) (fun _ _ _ h => h) (Or.inl ⟨by rfl, ?_⟩) ?_ ?_
    rotate_left
    · intro w'
      go_simp
      with_reducible rfl
    rotate_left
    · simp only [Act.put, List.setIfInBounds_toArray, List.set_cons_zero, List.set_cons_succ, i64_w, i32_w]
      rfl
    refine done_ (by kernel_rfl) ?_
    obtain ⟨z0, z1, z2, z3, z4⟩ := fm_cells R2.out
    try go_wp2_with fail
    refine bodyPost_ret (v := .tuple #[.slice L_A bl.length L_c, .agg #[.int .i64 x.f0, .string x.f1, .int .i64 x.f2, .slice X_3 x.f3.length X_c3, .slice X_4 x.f4.length X_c4], .int .i64 n]) (by simp [results, Try.results21, go_sem, z0, z1, z2, z3, z4]) rfl ?_
    exact ⟨_, _, _, _, _, _, rfl, LL.out.le, LL.out.now, FA.out, BB.out⟩
end Go.Proofs.Ytcbomlmlindjdaa
end
section
-- PRINTED WORDS (module Derived/Print/Sized.lean): go-gate-2's, for the rows of laws over slices: an AI agent of Go's test side, Tue Nov 17 2026; no person has read it. Lean checks it.
namespace Go.Proofs.YtcbomlmlindjdaaW.PrintWords
open Go.ChangeShapes Go.WideShapes
/-- A row's slice of whole numbers is no longer than its weight allows. -/
theorem sized_ints {H : Type} {enc : TypeId × Value → H} {P : Program} {W : World} {base : Nat} {spare : Nat → Bool} {held : Bool} {t e : TypeId} {k : IntKind} {a : Option Addr} {len cap : Nat} {d : DataW H} {ps : List MemPlace} {ts : List TypeId} {ds : List (DataW H)} {j : Nat}
    (hsz : (DataW.weightsEach P ts ds).all (· ≤ reachBytes) = true) (ht : ts[j]? = some t) (hd : ds[j]? = some d) (hu : P.underlying t = some (.slice e)) (he : P.underlying e = some (.int k)) (hc : P.cellsOf e = 1) {B : Nat} (hB : P.bytesOf e = B)
    (h : DataW.Trod enc P W base spare held t (.slice a len cap) d ps) : len * B ≤ 140737488351232 := by
  obtain ⟨fuel, hf⟩ := h
  rcases open_ints hu he hc hf with ⟨hcs, _⟩ | ⟨x, l, c, zs, hcs, _, hl, _, hz, hx, _, _⟩
  · simp [Value.cells] at hcs
    obtain ⟨rfl, rfl, rfl⟩ := hcs
    simp
  · simp [Value.cells] at hcs
    obtain ⟨rfl, rfl, rfl⟩ := hcs
    obtain ⟨hx, _⟩ := Prod.mk.inj hx
    subst hx
    have z := sized_slice hsz ht hd hu
    rw [hB] at z
    have hl2 : len ≤ zs.length := by
      rw [hz]
      split
      · exact hl
      · exact Nat.le_refl _
    have h1 : (lits (H := H) k (zs.take len)).length + (lits (H := H) k (zs.drop len)).length = zs.length := by
      simp [lits]
      omega
    rw [h1] at z
    exact Nat.le_trans (Nat.mul_le_mul_right _ hl2) z
end Go.Proofs.YtcbomlmlindjdaaW.PrintWords
end
