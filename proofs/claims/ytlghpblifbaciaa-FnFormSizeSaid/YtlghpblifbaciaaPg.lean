/- What the functions that draw forms come to: some form of a bounded size (no program is in sight here). -/
import Derived.Test.YtlghpblifbaciaaPc
import Derived.Test.YtlghpblifbaciaaPd
import Derived.Test.YtlghpblifbaciaaQ4
import Derived.Test.YtlghpblifbaciaaQ5
import Derived.Test.YtlghpblifbaciaaQ6
namespace Go.Proofs.Ytlghpblifbaciaa
open Go.RowKit Go.Proofs.YtlghpblifbaciaaW.PrintWords Go.Proofs.Ytlghpblifbaciaa.Q
set_option linter.unusedVariables false
def Bn : Nat → Nat
  | 0 => 13
  | d + 1 => 13 + 3 * (Bn d + 1)
theorem Bn_le {d : Nat} (h : d ≤ 4) : Bn d ≤ 1693 := by
  rcases (show d = 0 ∨ d = 1 ∨ d = 2 ∨ d = 3 ∨ d = 4 by omega) with rfl | rfl | rfl | rfl | rfl <;> decide
theorem Bn_pos (d : Nat) : 13 ≤ Bn d := by
  cases d <;> simp [Bn]
theorem set_totL (l : List Fm) (i : Nat) (h : i < l.length) (y : Fm) : totL (l.set i y) + l[i].tot = totL l + y.tot := by
  induction l generalizing i with
  | nil => simp at h
  | cons a l ih =>
    cases i with
    | zero => simp [totL]; omega
    | succ i =>
      have := ih i (by simpa using h)
      simp only [List.set_cons_succ, totL, List.getElem_cons_succ]
      omega
theorem set_sizes (l : List Fm) (i : Nat) (h : i < l.length) (y : Fm) : sizes (l.set i y) + l[i].size = sizes l + y.size := by
  induction l generalizing i with
  | nil => simp at h
  | cons a l ih =>
    cases i with
    | zero => simp [sizes]; omega
    | succ i =>
      have := ih i (by simpa using h)
      simp only [List.set_cons_succ, sizes, List.getElem_cons_succ]
      omega
theorem ev_name (a : ByteArray) : spec_l1Name.f a = some ((1 : Int), a, (0 : Int), ([] : List Int), ([] : List Fm)) := rfl
abbrev nms : List ByteArray := [(⟨#[97]⟩ : ByteArray), (⟨#[98]⟩ : ByteArray), (⟨#[120]⟩ : ByteArray), (⟨#[121]⟩ : ByteArray), (⟨#[102]⟩ : ByteArray), (⟨#[105, 102]⟩ : ByteArray), (⟨#[108, 101, 116]⟩ : ByteArray), (⟨#[43]⟩ : ByteArray)]
theorem names_small : ∀ v, v ∈ nms → v.size ≤ 13 := by
  intro v hv
  simp only [List.mem_cons, List.not_mem_nil, or_false] at hv
  rcases hv with h | h | h | h | h | h | h | h <;> (rw [h]; decide)
theorem ev_some {s : List Int} (hs : Bts s) : ∀ d : Nat, d ≤ 4 → ∀ p : Nat, p + Bn d ≤ 900000 →
    ∃ (x : Fm) (q : Nat), q ≤ p + Bn d ∧ x.tot ≤ Bn d ∧ Ev (fun k => spec_l1Some.f k s (p : Int) (d : Int)) (x.f0, x.f1, x.f2, x.f3, x.f4, (q : Int)) := by
  have leaf : ∀ (d : Nat) (p : Nat), p ≤ 900002 → ∃ (x : Fm) (q : Nat), q ≤ p + 2 ∧ x.tot ≤ 13 ∧ Ev (fun k => spec_l1Some.j0 k (d : Int) true s (p : Int)) (x.f0, x.f1, x.f2, x.f3, x.f4, (q : Int)) := by
    intro d p hp
    obtain ⟨v, hv, e1⟩ := ev_pick hs p (by omega) 4 (by omega)
    by_cases h0 : v = 0
    · obtain ⟨n, hn, e2⟩ := ev_num hs (p + 1) (by omega) [0, 1, 2, 7, 42, 999] (by simp) (by simp)
      refine ⟨⟨2, ⟨#[]⟩, n, [], []⟩, p + 2, by omega, by simp [Fm.tot, totL, ByteArray.size], ?_⟩
      refine Ev.step (fun k => by rw [spec_l1Some.j0]) (Ev.pos rfl (Ev.bind e1 (Ev.pos h0 (Ev.bind e2 ?_))))
      exact Ev.now _
    · obtain ⟨n, hn, e2⟩ := ev_of hs (p + 1) (by omega) nms (by simp) (by simp)
      refine ⟨⟨1, n, 0, [], []⟩, p + 2, by omega, ?_, ?_⟩
      rotate_left
      · refine Ev.step (fun k => by rw [spec_l1Some.j0]) (Ev.pos rfl (Ev.bind e1 (Ev.neg h0 (Ev.bind e2 (Ev.bind (g := fun _ => _) (Ev.some (ev_name n)) ?_)))))
        exact Ev.now _
      · have := names_small n hn
        simp [Fm.tot, totL]; omega
  intro d
  induction d with
  | zero =>
    intro hd p hp
    obtain ⟨x, q, h1, h2, h3⟩ := leaf 0 p (by omega)
    refine ⟨x, q, by have : Bn 0 = 13 := rfl; omega, h2, Ev.step (fun k => by rw [spec_l1Some.f]) ?_⟩
    exact Ev.pos rfl h3
  | succ d ih =>
    intro hd p hp
    have hB := Bn_pos d
    have hBs : Bn (d + 1) = 13 + 3 * (Bn d + 1) := rfl
    have hB4 := Bn_le (d := d) (by omega)
    obtain ⟨v, hv, e1⟩ := ev_pick hs p (by omega) 3 (by omega)
    cases hz : (v == 0) with
    | true =>
      obtain ⟨x, q, h1, h2, h3⟩ := leaf (d + 1) (p + 1) (by omega)
      refine ⟨x, q, by have : Bn (d + 1) = 13 + 3 * (Bn d + 1) := rfl; omega, by have : Bn (d + 1) = 13 + 3 * (Bn d + 1) := rfl; omega, Ev.step (fun k => by rw [spec_l1Some.f]) (Ev.neg (by omega) (Ev.bind e1 ?_))⟩
      dsimp only
      rw [hz]
      exact h3
    | false =>
      obtain ⟨n, hn, e2⟩ := ev_pick hs (p + 1) (by omega) 4 (by omega)
      obtain ⟨m, rfl⟩ := Int.eq_ofNat_of_zero_le (hn (by omega)).1
      have hm : m ≤ 3 := by have := (hn (by omega)).2; omega
      obtain ⟨r, ⟨x, q, rfl, h1, h2⟩, hr⟩ := ev_loop (L := fun k (t : Int × Int × List Fm) => spec_l1Some.l0 k ((d + 1 : Nat) : Int) t.1 s t.2.1 3 ⟨#[]⟩ 0 t.2.2)
        (fun i t => ∃ q : Nat, t.1 = ((m - i : Nat) : Int) ∧ t.2.1 = (q : Int) ∧ q ≤ p + 2 + i * Bn d ∧ totL t.2.2 ≤ i * (Bn d + 1) ∧ t.2.2.length = i) m
        (fun r => ∃ (x : Fm) (q : Nat), r = (x.f0, x.f1, x.f2, x.f3, x.f4, (q : Int)) ∧ q ≤ p + 2 + m * Bn d ∧ x.tot ≤ m * (Bn d + 1)) (by
          rintro i ⟨t1, t2, t3⟩ hi ⟨q, rfl, rfl, hq, ht, hl⟩
          dsimp only at ht hl hq
          have hi3 : i * Bn d ≤ 2 * Bn d := Nat.mul_le_mul_right _ (by omega)
          obtain ⟨y, q', h1, h2, h3⟩ := ih (by omega) q (by omega)
          refine ⟨(((m - (i + 1) : Nat) : Int), (q' : Int), t3 ++ [y]), ⟨q', rfl, rfl, ?_, ?_, by simp [hl]⟩, fun r hr => ?_⟩
          · rw [Nat.succ_mul]; omega
          · rw [totL_append, Nat.succ_mul]; simp only [totL]; omega
          · refine Ev.step (fun k => by rw [spec_l1Some.l0]) (Ev.pos (by show ((m - i : Nat) : Int) > 0; omega) ?_)
            rw [show wrap64 (((d + 1 : Nat) : Int) - 1) = (d : Int) from by rw [wr_in (by omega) (by omega)]; omega]
            refine Ev.bind h3 (Ev.pos (by show t3.length < _; change t3.length = i at hl; omega) ?_)
            dsimp only
            rw [Fm.eta, show wrap64 (((m - i : Nat) : Int) - 1) = ((m - (i + 1) : Nat) : Int) from by rw [wr_in (by omega) (by omega)]; omega]
            exact hr) (by
          rintro ⟨t1, t2, t3⟩ ⟨q, rfl, rfl, hq, ht, hl⟩
          refine ⟨_, ⟨⟨3, ⟨#[]⟩, 0, [], t3⟩, q, rfl, hq, by simp [Fm.tot, ByteArray.size]; omega⟩, Ev.step (fun k => by rw [spec_l1Some.l0]) (Ev.neg (by simp) (Ev.now _))⟩)
        (((m : Nat) : Int), ((p + 2 : Nat) : Int), []) ⟨p + 2, by simp, rfl, by omega, by simp [totL], rfl⟩
      have hm3 : m * Bn d ≤ 3 * Bn d := Nat.mul_le_mul_right _ hm
      have hm4 : m * (Bn d + 1) ≤ 3 * (Bn d + 1) := Nat.mul_le_mul_right _ hm
      refine ⟨x, q, by have : Bn (d + 1) = 13 + 3 * (Bn d + 1) := rfl; omega, by have : Bn (d + 1) = 13 + 3 * (Bn d + 1) := rfl; omega, Ev.step (fun k => by rw [spec_l1Some.f]) (Ev.neg (by omega) (Ev.bind e1 ?_))⟩
      dsimp only
      rw [hz]
      refine Ev.step (fun k => by rw [spec_l1Some.j0]) (Ev.neg (by simp) (Ev.bind e2 ?_))
      exact hr
end Go.Proofs.Ytlghpblifbaciaa
