/- What l1Dress and l1Mutate come to: some form of a bounded size (no program is in sight here). -/
import Derived.Test.YtlghpblifbaciaaPg
namespace Go.Proofs.Ytlghpblifbaciaa
open Go.RowKit Go.Proofs.YtlghpblifbaciaaW.PrintWords Go.Proofs.Ytlghpblifbaciaa.Q
set_option linter.unusedVariables false
abbrev sets7 : List (List Int) := [(([] : List Int)), (([1] : List Int)), (([2] : List Int)), (([1, 2] : List Int)), (([1, 3] : List Int)), (([1, 2, 3] : List Int)), (([99] : List Int))]
theorem sets7_small : ∀ z, z ∈ sets7 → z.length ≤ 3 := by
  intro v hv
  simp only [List.mem_cons, List.not_mem_nil, or_false] at hv
  rcases hv with h | h | h | h | h | h | h <;> (rw [h]; decide)
theorem rdL (l : List (List Int)) (i : Int) (h : ∀ z, z ∈ l → z.length ≤ 3) : (rd_L3 l i).length ≤ 3 := by
  simp only [rd_L3, List.getD]
  by_cases hi : i.toNat < l.length
  · rw [List.getElem?_eq_getElem hi]; exact h _ (List.getElem_mem hi)
  · rw [List.getElem?_eq_none (by omega)]; simp
theorem ev_dress {s : List Int} (hs : Bts s) : ∀ x : Fm, x.tot ≤ 100000 → ∀ p : Nat, p + x.size ≤ 1000000 →
    ∃ (y : Fm) (q : Nat), q ≤ p + x.size ∧ y.tot ≤ x.tot + 3 * x.size ∧ y.size = x.size ∧ Ev (fun k => spec_l1Dress.f k s (p : Int) x.f0 x.f1 x.f2 x.f3 x.f4) (y.f0, y.f1, y.f2, y.f3, y.f4, (q : Int)) := by
  intro x
  induction x using Fm.ind with
  | _ x ih =>
  intro ht p hp
  have h4 := lenT x
  have hsz := x.size_eq
  have htt := x.tot_eq
  have hcp := ev_spec_l1Copy x (by omega)
  have loop : ∀ (p : Nat) (sc : List Int), p + sizes x.f4 ≤ 1000000 → sc.length ≤ x.f3.length + 3 →
      ∃ (y : Fm) (q : Nat), q ≤ p + sizes x.f4 ∧ y.tot ≤ x.tot + 3 * x.size ∧ y.size = x.size ∧ Ev (fun k => spec_l1Dress.l0 k 0 s (p : Int) x.f0 x.f1 x.f2 sc x.f4) (y.f0, y.f1, y.f2, y.f3, y.f4, (q : Int)) := by
    intro p sc hp hsc
    obtain ⟨r, ⟨y, q, rfl, h1, h2, h3⟩, hr⟩ := ev_loop (L := fun k (t : Int × Int × List Fm) => spec_l1Dress.l0 k t.1 s t.2.1 x.f0 x.f1 x.f2 sc t.2.2)
      (fun i t => ∃ q : Nat, t.1 = (i : Int) ∧ t.2.1 = (q : Int) ∧ q ≤ p + sizes (x.f4.take i) ∧ totL t.2.2 ≤ totL x.f4 + 3 * sizes (x.f4.take i) ∧ sizes t.2.2 = sizes x.f4 ∧ t.2.2.length = x.f4.length ∧ ∀ j, i ≤ j → t.2.2[j]? = x.f4[j]?) x.f4.length
      (fun r => ∃ (y : Fm) (q : Nat), r = (y.f0, y.f1, y.f2, y.f3, y.f4, (q : Int)) ∧ q ≤ p + sizes x.f4 ∧ y.tot ≤ x.tot + 3 * x.size ∧ y.size = x.size) (by
        rintro i ⟨t1, t2, t3⟩ hi ⟨q, rfl, rfl, hq, h1, h2, h3, h5⟩
        dsimp only at h1 h2 h3 h5
        have hi3 : i < t3.length := by omega
        have e0 : t3[i] = x.f4[i] := by
          have := h5 i (Nat.le_refl _)
          rw [List.getElem?_eq_getElem hi3, List.getElem?_eq_getElem hi] at this
          exact Option.some.inj this
        have hk := getKidT hi
        have hle := sizes_take_le x.f4 (i + 1)
        rw [sizes_take _ _ hi] at hle
        obtain ⟨y, q', g1, g2, g3, g4⟩ := ih _ (List.getElem_mem hi) (by omega) q (by omega)
        have hst := set_totL t3 i hi3 y
        have hss := set_sizes t3 i hi3 y
        rw [e0] at hst hss
        refine ⟨(((i + 1 : Nat) : Int), (q' : Int), t3.set i y), ⟨q', rfl, rfl, ?_, ?_, ?_, by simpa using h3, ?_⟩, fun r hr => ?_⟩
        · rw [sizes_take _ _ hi]; omega
        · dsimp only; rw [sizes_take _ _ hi]; omega
        · dsimp only; omega
        · intro j hj
          dsimp only
          rw [List.getElem?_set_ne (by omega)]
          exact h5 j (by omega)
        · refine Ev.step (fun k => by rw [spec_l1Dress.l0]) (Ev.pos (by show (i : Int) < (t3.length : Int); omega) (Ev.pos (by show (0 : Int) ≤ (i : Int); omega) ?_))
          dsimp only
          rw [rdF _ _ hi3, e0]
          refine Ev.bind g4 ?_
          dsimp only
          rw [Fm.eta, wr1 _ (by omega)]
          exact hr) (by
        rintro ⟨t1, t2, t3⟩ ⟨q, rfl, rfl, hq, h1, h2, h3, h5⟩
        dsimp only at h1 h2 h3 h5
        rw [List.take_length] at hq h1
        refine ⟨_, ⟨⟨x.f0, x.f1, x.f2, sc, t3⟩, q, rfl, hq, ?_, ?_⟩, Ev.step (fun k => by rw [spec_l1Dress.l0]) (Ev.neg (by show ¬ (x.f4.length : Int) < (t3.length : Int); omega) (Ev.now _))⟩
        · rw [Fm.tot_eq]; dsimp only; omega
        · rw [Fm.size_eq]; dsimp only; omega)
      ((0 : Int), (p : Int), x.f4) ⟨p, rfl, rfl, by simp [sizes], by simp, rfl, rfl, fun _ _ => rfl⟩
    exact ⟨y, q, h1, h2, h3, hr⟩
  by_cases h1 : x.f0 = 1
  · obtain ⟨v, hv, e1⟩ := ev_pick hs p (by omega) 7 (by omega)
    obtain ⟨hv0, hv7⟩ := hv (by omega)
    have hsc := rdL sets7 v sets7_small
    obtain ⟨y, q, g1, g2, g3, g4⟩ := loop (p + 1) ([] ++ rd_L3 sets7 v) (by omega) (by simp; omega)
    refine ⟨y, q, by omega, g2, g3, Ev.step (fun k => by rw [spec_l1Dress.f]) (Ev.bind hcp (Ev.pos h1 (Ev.bind (g := fun _ => _) (Ev.now sets7) (Ev.bind (g := fun _ => _) (Ev.now []) (Ev.bind e1 (Ev.pos hv0 (Ev.pos hv7 (Ev.pos ?_ ?_))))))))⟩
    · simp only [List.length_nil]; omega
    · refine Ev.step (fun k => by rw [spec_l1Dress.j0]) ?_
      exact g4
  · obtain ⟨y, q, g1, g2, g3, g4⟩ := loop p x.f3 (by omega) (by omega)
    refine ⟨y, q, by omega, g2, g3, Ev.step (fun k => by rw [spec_l1Dress.f]) (Ev.bind hcp (Ev.neg h1 ?_))⟩
    refine Ev.step (fun k => by rw [spec_l1Dress.j0]) ?_
    exact g4
abbrev badNms : List ByteArray := [(⟨#[]⟩ : ByteArray), (⟨#[65]⟩ : ByteArray), (⟨#[116, 111, 111, 108, 111, 110, 103, 97, 110, 97, 109, 101, 49]⟩ : ByteArray), (⟨#[122]⟩ : ByteArray), (⟨#[120, 32, 121]⟩ : ByteArray)]
theorem badNms_small : ∀ v, v ∈ badNms → v.size ≤ 13 := by
  intro v hv
  simp only [List.mem_cons, List.not_mem_nil, or_false] at hv
  rcases hv with h | h | h | h | h <;> (rw [h]; decide)
theorem ev_mutate {s : List Int} (hs : Bts s) : ∀ x : Fm, x.tot ≤ 200000 → ∀ p : Nat, p + 3 * x.size ≤ 1000000 →
    ∃ (y : Fm) (q : Nat), q ≤ p + 3 * x.size ∧ y.tot ≤ x.tot + 14 ∧ y.size = x.size ∧ Ev (fun k => spec_l1Mutate.f k s (p : Int) x.f0 x.f1 x.f2 x.f3 x.f4) (y.f0, y.f1, y.f2, y.f3, y.f4, (q : Int)) := by
  intro x
  induction x using Fm.ind with
  | _ x ih =>
  intro ht p hp
  have h4 := lenT x
  have h3 := scT x
  have hsz := x.size_eq
  have htt := x.tot_eq
  have hcp := ev_spec_l1Copy x (by omega)
  have leaf : ∀ p : Nat, p + 2 ≤ 1000000 → ∃ (y : Fm) (q : Nat), q ≤ p + 2 ∧ y.tot ≤ x.tot + 14 ∧ y.size = x.size ∧ Ev (fun k => spec_l1Mutate.j0 k false s (p : Int) x.f0 x.f1 x.f2 x.f3 x.f4) (y.f0, y.f1, y.f2, y.f3, y.f4, (q : Int)) := by
    intro p hp
    obtain ⟨v, hv, e1⟩ := ev_pick hs p (by omega) 14 (by omega)
    by_cases c0 : v = 0
    · obtain ⟨n, hn, e2⟩ := ev_num hs (p + 1) (by omega) [0, 4, 1, 3] (by simp) (by simp)
      refine ⟨⟨n, x.f1, x.f2, x.f3, x.f4⟩, p + 2, by omega, by rw [Fm.tot_eq]; dsimp only; omega, by rw [Fm.size_eq]; dsimp only; omega, Ev.step (fun k => by rw [spec_l1Mutate.j0]) (Ev.neg (by simp) (Ev.bind e1 (Ev.pos c0 (Ev.bind e2 ?_))))⟩
      exact Ev.now _
    by_cases c1 : v = 1
    · obtain ⟨n, hn, e2⟩ := ev_of hs (p + 1) (by omega) badNms (by simp) (by simp)
      have := badNms_small n hn
      refine ⟨⟨x.f0, n, x.f2, x.f3, x.f4⟩, p + 2, by omega, by rw [Fm.tot_eq]; dsimp only; omega, by rw [Fm.size_eq]; dsimp only; omega, Ev.step (fun k => by rw [spec_l1Mutate.j0]) (Ev.neg (by simp) (Ev.bind e1 (Ev.neg c0 (Ev.pos c1 (Ev.bind e2 ?_)))))⟩
      exact Ev.now _
    by_cases c2 : v = 2
    · obtain ⟨n, hn, e2⟩ := ev_num hs (p + 1) (by omega) [1000, (-1), 5] (by simp) (by simp)
      refine ⟨⟨x.f0, x.f1, n, x.f3, x.f4⟩, p + 2, by omega, by rw [Fm.tot_eq]; dsimp only; omega, by rw [Fm.size_eq]; dsimp only; omega, Ev.step (fun k => by rw [spec_l1Mutate.j0]) (Ev.neg (by simp) (Ev.bind e1 (Ev.neg c0 (Ev.neg c1 (Ev.pos c2 (Ev.bind e2 ?_))))))⟩
      exact Ev.now _
    by_cases c3 : v = 3
    · obtain ⟨n, hn, e2⟩ := ev_num hs (p + 1) (by omega) [0, 100, 1, 50] (by simp) (by simp)
      refine ⟨⟨x.f0, x.f1, x.f2, x.f3 ++ [n], x.f4⟩, p + 2, by omega, by rw [Fm.tot_eq]; simp only [List.length_append, List.length_cons, List.length_nil]; omega, by rw [Fm.size_eq]; dsimp only; omega, Ev.step (fun k => by rw [spec_l1Mutate.j0]) (Ev.neg (by simp) (Ev.bind e1 (Ev.neg c0 (Ev.neg c1 (Ev.neg c2 (Ev.pos c3 (Ev.bind e2 ?_)))))))⟩
      exact Ev.pos (by omega) (Ev.now _)
    · refine ⟨x, p + 1, by omega, by omega, rfl, Ev.step (fun k => by rw [spec_l1Mutate.j0]) (Ev.neg (by simp) (Ev.bind e1 (Ev.neg c0 (Ev.neg c1 (Ev.neg c2 (Ev.neg c3 ?_))))))⟩
      exact Ev.now _
  by_cases h0 : (x.f4.length : Int) > 0
  · obtain ⟨v, hv, e1⟩ := ev_pick hs p (by omega) 2 (by omega)
    have hone : 1 ≤ sizes x.f4 := by
      have := sizes_mem (List.getElem_mem (show 0 < x.f4.length by omega))
      have := (x.f4[0]'(by omega)).size_eq
      omega
    by_cases hz : v > 0
    · obtain ⟨n, hn, e2⟩ := ev_pick hs (p + 1) (by omega) (x.f4.length : Int) (by omega)
      obtain ⟨m, rfl⟩ := Int.eq_ofNat_of_zero_le (hn (by omega)).1
      have hm : m < x.f4.length := by have := (hn (by omega)).2; omega
      have hk := getKidT hm
      have hsm := sizes_mem (List.getElem_mem hm)
      obtain ⟨y, q, g1, g2, g3, g4⟩ := ih _ (List.getElem_mem hm) (by omega) (p + 2) (by omega)
      have hst := set_totL x.f4 m hm y
      have hss := set_sizes x.f4 m hm y
      refine ⟨⟨x.f0, x.f1, x.f2, x.f3, x.f4.set m y⟩, q, by omega, by rw [Fm.tot_eq]; dsimp only; omega, by rw [Fm.size_eq]; dsimp only; omega, Ev.step (fun k => by rw [spec_l1Mutate.f]) (Ev.bind hcp (Ev.pos h0 (Ev.bind e1 ?_)))⟩
      refine Ev.step (fun k => by rw [spec_l1Mutate.j0]) (Ev.pos (by simpa using hz) (Ev.bind e2 (Ev.pos (by show (0 : Int) ≤ (m : Int); omega) (Ev.pos (by show (m : Int) < (x.f4.length : Int); omega) ?_))))
      dsimp only
      rw [rdF _ _ hm]
      refine Ev.bind g4 ?_
      dsimp only
      rw [Fm.eta]
      exact Ev.now _
    · obtain ⟨y, q, g1, g2, g3, g4⟩ := leaf (p + 1) (by omega)
      refine ⟨y, q, by omega, g2, g3, Ev.step (fun k => by rw [spec_l1Mutate.f]) (Ev.bind hcp (Ev.pos h0 (Ev.bind e1 ?_)))⟩
      dsimp only
      rw [decide_eq_false hz]
      exact g4
  · obtain ⟨y, q, g1, g2, g3, g4⟩ := leaf p (by omega)
    refine ⟨y, q, by omega, g2, g3, Ev.step (fun k => by rw [spec_l1Mutate.f]) (Ev.bind hcp (Ev.neg h0 ?_))⟩
    exact g4
end Go.Proofs.Ytlghpblifbaciaa
