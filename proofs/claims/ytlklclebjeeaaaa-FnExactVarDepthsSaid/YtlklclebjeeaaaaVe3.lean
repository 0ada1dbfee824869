/- Words for the laws' proofs (part 3): contracts of functions, and plain lemmas. -/
import Derived.Laws.IdiomStrings
import Derived.Test.YtlklclebjeeaaaaVe1
import Derived.Test.YtlklclebjeeaaaaVe2
section
namespace Go.Proofs.Ytlklclebjeeaaaa.Q
open Go.RowKit Go.Proofs.YtlklclebjeeaaaaW.PrintWords Go.Proofs.YtlklclebjeeaaaaW.PrintLast Go.Proofs.YtlklclebjeeaaaaW.PrintMore
attribute [local go_sem] max2_int min2_int max_two min_two max_three min_three max_four min_four   -- for this text's walks alone
set_option linter.unusedVariables false
set_option linter.unusedSimpArgs false

mutual
noncomputable def spec_l4Literals.l0 : Nat → List (S34) → Int → Option (Bool)
  | 0, _, _ => none
  | k + 1, x0, x3 => if x3 < (x0.length : Int) then (spec_l4Literals.j1 k x0 x3 (decide (x3 < 10))) else (spec_l4Literals.j1 k x0 x3 false)
noncomputable def spec_l4Literals.j1 : Nat → List (S34) → Int → Bool → Option (Bool)
  | 0, _, _, _ => none
  | k + 1, x0, x3, x11 => if x11 = true then (if 0 ≤ x3 then (if x3 < (x0.length : Int) then ((spec_l3Is.f ((rd_T34 x0 x3).f0) ((rd_T34 x0 x3).f1) ((rd_T34 x0 x3).f2) ((rd_T34 x0 x3).f3) ((rd_T34 x0 x3).f4)).bind fun t218 => (if t218 = true then (if ((rd_T34 x0 x3).f1).toList = ([46, 46, 46] : List UInt8) then (some false) else (if ((rd_T34 x0 x3).f1).toList = ([95] : List UInt8) then (some false) else (if x3 ≤ (x0.length : Int) then ((spec_l4In.f k (x0.take (x3 : Int).toNat) ((rd_T34 x0 x3).f0) ((rd_T34 x0 x3).f1) ((rd_T34 x0 x3).f2) ((rd_T34 x0 x3).f3) ((rd_T34 x0 x3).f4)).bind fun t226 => (if t226 = true then (some false) else (spec_l4Literals.l0 k x0 (wrap64 (x3 + 1))))) else (none)))) else (some false))) else (none)) else (none)) else (some (decide ((x0.length : Int) < 10)))
end
noncomputable def spec_l4Literals.f (k : Nat) (l0 : List (S34)) : Option (Bool) := spec_l4Literals.l0 k l0 0
theorem spec_l4Literals.mono_l : ∀ k, (∀ y0 y1, LeO (spec_l4Literals.l0 k y0 y1) (spec_l4Literals.l0 (k + 1) y0 y1)) ∧ (∀ y0 y1 y2, LeO (spec_l4Literals.j1 k y0 y1 y2) (spec_l4Literals.j1 (k + 1) y0 y1 y2))
  | 0 => ⟨fun _ _ r h => by simp [spec_l4Literals.l0] at h, fun _ _ _ r h => by simp [spec_l4Literals.j1] at h⟩
  | k + 1 => by
    obtain ⟨ih0, ih1⟩ := spec_l4Literals.mono_l k
    refine ⟨?_, ?_⟩
    · intro y0 y1
      unfold spec_l4Literals.l0
      repeat' first
      | (with_reducible exact ih0 _ _)
      | (with_reducible exact ih1 _ _ _)
      | (with_reducible exact spec_l4In.mono _ _ _ _ _ _ _)
      | (with_reducible exact LeO.refl _)
      | (with_reducible exact LeO.none _)
      | (with_reducible refine LeO.ite ?_ ?_)
      | (with_reducible refine LeO.bind ?_ (fun _ => ?_))
      | exact ih0 _ _
      | exact ih1 _ _ _
      | exact spec_l4In.mono _ _ _ _ _ _ _
      | exact LeO.none _
      | refine LeO.ite ?_ ?_
      | refine LeO.bind ?_ (fun _ => ?_)
    · intro y0 y1 y2
      unfold spec_l4Literals.j1
      repeat' first
      | (with_reducible exact ih0 _ _)
      | (with_reducible exact ih1 _ _ _)
      | (with_reducible exact spec_l4In.mono _ _ _ _ _ _ _)
      | (with_reducible exact LeO.refl _)
      | (with_reducible exact LeO.none _)
      | (with_reducible refine LeO.ite ?_ ?_)
      | (with_reducible refine LeO.bind ?_ (fun _ => ?_))
      | exact ih0 _ _
      | exact ih1 _ _ _
      | exact spec_l4In.mono _ _ _ _ _ _ _
      | exact LeO.none _
      | refine LeO.ite ?_ ?_
      | refine LeO.bind ?_ (fun _ => ?_)
theorem spec_l4Literals.mono : ∀ a0 k, LeO (spec_l4Literals.f k a0) (spec_l4Literals.f (k + 1) a0) := by
  intro a0 k
  obtain ⟨ih0, ih1⟩ := spec_l4Literals.mono_l k
  unfold spec_l4Literals.f
  repeat' first
      | (with_reducible exact ih0 _ _)
      | (with_reducible exact ih1 _ _ _)
      | (with_reducible exact spec_l4In.mono _ _ _ _ _ _ _)
      | (with_reducible exact LeO.refl _)
      | (with_reducible exact LeO.none _)
      | (with_reducible refine LeO.ite ?_ ?_)
      | (with_reducible refine LeO.bind ?_ (fun _ => ?_))
      | exact ih0 _ _
      | exact ih1 _ _ _
      | exact spec_l4In.mono _ _ _ _ _ _ _
      | exact LeO.none _
      | refine LeO.ite ?_ ?_
      | refine LeO.bind ?_ (fun _ => ?_)
noncomputable def spec_l4Literals.T4 : Bool × List (List Nat × List Nat) := (true, [([], []), ([], []), ([0, 1], [0, 1]), ([2], [2]), ([3], [3]), ([4], [4]), ([5, 4], [5]), ([6], [6]), ([6], [6]), ([7, 8, 6], [6, 7, 8]), ([9, 6], [6, 9]), ([10, 6], [6, 10]), ([11, 6], [6, 11]), ([6, 12], [6, 12]), ([13, 6], [13]), ([14], [14]), ([14], [14]), ([15, 16, 14], [14, 15, 16]), ([17, 14], [14, 17]), ([18, 14], [14, 18]), ([19, 14], [14, 19]), ([14, 20], [14, 20]), ([21, 14], [21]), ([22], [22]), ([22], [22]), ([23, 24, 22], [22, 23, 24]), ([22], [22]), ([22], [22]), ([26, 27, 22], [22, 26, 27]), ([28, 22], [22, 28]), ([25, 29, 22, 22], [22, 25, 29]), ([22, 30], [22, 30])])
noncomputable def spec_l4Literals.B4 : List Nat := [0, 0, 3, 7, 15, 31, 63, 127, 127, 511, 1023, 2047, 4095, 8191, 16383, 32767, 32767, 131071, 262143, 524287, 1048575, 2097151, 4194303, 8388607, 8388607, 33554431, 8388607, 8388607, 209715199, 478150655, 1073741823, 2147483647]
theorem spec_l4Literals.tab4 : rtab .any (opsOf Try.f99 4) = spec_l4Literals.T4 := by kernel_rfl
theorem spec_l4Literals.bits4 : waitsOk spec_l4Literals.T4.2 spec_l4Literals.B4 = true := by kernel_rfl
set_option maxHeartbeats 8000000 in
set_option maxRecDepth 100000 in
theorem spec_l4Literals.calls (k : Nat) (A0 : Option Addr) (c0 : Nat) (l0 : List (S34)) (r : Bool) (w : World) (hr0 : Kd.C k34 w A0 l0.length l0) (hc0 : l0.length ≤ c0) (h : spec_l4Literals.f k l0 = some r) :
    Calls Try.prog 99 #[.slice A0 l0.length c0] w fun e w' => e = .returned (.bool r) ∧ Below w.heap.size w w' := by
  have hu34 := Try.underlying34
  have HR0 := Aside0.mk hr0
  have HC0 := Aside0.mk hc0
  clear hr0 hc0
  have HB := Aside0.mk (Below.refl w.heap.size w)
  have H : (spec_l4Literals.l0 k l0 0) = some r := h
  clear h
  have H' := Aside0.mk H
  clear H
  go_enter Try.func99, Try.ntmps99
  go_wp2
  go_loopg [3] k (fun kq v3 w' => ∃ (x3_1 : Int), v3 = .int .i64 x3_1 ∧ Aside0 (spec_l4Literals.l0 kq l0 x3_1 = some r) ∧ Aside0 (kq ≤ k) ∧ Aside0 (Below w.heap.size w w'))
  case atStart => exact ⟨(0), (by first | rfl | (simp; done) | (simp [*]; done)), H', ⟨Nat.le_refl _⟩, ⟨by repeat (first | (with_reducible first | exact HB.out | apply below_alloc | apply pw_below_drewN | apply below_drew1) | exact HB.out)⟩⟩
  case round =>
    clear H'
    obtain ⟨x3_1, rfl, HA, HK1, HB⟩ := hrel
    cases gk with
    | zero => exact absurd HA.out (by simp [spec_l4Literals.l0])
    | succ k1 =>
      have H := HA.out
      clear HA
      simp only [spec_l4Literals.l0] at H
      have HC2 := Aside0.mk H
      clear H
      go_upto_region 2 with (fail)
      go_cut [11] (fun v11 wc => ∃ (kq : Nat) (x11_1 : Bool), v11 = .bool x11_1 ∧ Aside0 (spec_l4Literals.j1 kq l0 x3_1 x11_1 = some r) ∧ Aside0 (kq ≤ k1) ∧ Aside0 (Below w.heap.size w wc))
      case first =>
        have H := HC2.out
        clear HC2
        by_cases c3 : x3_1 < (l0.length : Int)
        · rw [if_pos c3] at H
          have c3b0 : decide (x3_1 < (l0.length : Int)) = true := decide_eq_true c3
          clear c3
          (first | rw [c3b0] | (simp only [i64_w, i32_w]; rw [c3b0]) | skip)
          have H' := Aside0.mk H
          clear H
          go_wp2
          go_meet
          case rel => exact ⟨_, (decide (x3_1 < 10)), (by first | rfl | (simp; done) | (simp [*]; done)), H', ⟨by have := HK1.out; first | omega | exact Nat.le_refl _⟩, ⟨by repeat (first | (with_reducible first | exact HB.out | apply below_alloc | apply pw_below_drewN | apply below_drew1) | exact HB.out)⟩⟩
        · rw [if_neg c3] at H
          have c3b0 : decide (x3_1 < (l0.length : Int)) = false := decide_eq_false c3
          clear c3
          (first | rw [c3b0] | (simp only [i64_w, i32_w]; rw [c3b0]) | skip)
          have H' := Aside0.mk H
          clear H
          go_wp2
          go_meet
          case rel => exact ⟨_, (false), (by first | rfl | (simp; done) | (simp [*]; done)), H', ⟨by have := HK1.out; first | omega | exact Nat.le_refl _⟩, ⟨by repeat (first | (with_reducible first | exact HB.out | apply below_alloc | apply pw_below_drewN | apply below_drew1) | exact HB.out)⟩⟩
      case rest =>
        clear HC2
        try clear p2
        try clear c3
        try clear c3b0
        obtain ⟨kq, x11_1, rfl, HA, HJ1, HB⟩ := hcut
        cases kq with
        | zero => exact absurd HA.out (by simp [spec_l4Literals.j1])
        | succ kj1 =>
          have H := HA.out
          clear HA
          simp only [spec_l4Literals.j1] at H
          by_cases c4 : x11_1 = true
          · subst c4
            have H1 : (if 0 ≤ x3_1 then (if x3_1 < (l0.length : Int) then ((spec_l3Is.f ((rd_T34 l0 x3_1).f0) ((rd_T34 l0 x3_1).f1) ((rd_T34 l0 x3_1).f2) ((rd_T34 l0 x3_1).f3) ((rd_T34 l0 x3_1).f4)).bind fun t218 => (if t218 = true then (if ((rd_T34 l0 x3_1).f1).toList = ([46, 46, 46] : List UInt8) then (some false) else (if ((rd_T34 l0 x3_1).f1).toList = ([95] : List UInt8) then (some false) else (if x3_1 ≤ (l0.length : Int) then ((spec_l4In.f kj1 (l0.take (x3_1 : Int).toNat) ((rd_T34 l0 x3_1).f0) ((rd_T34 l0 x3_1).f1) ((rd_T34 l0 x3_1).f2) ((rd_T34 l0 x3_1).f3) ((rd_T34 l0 x3_1).f4)).bind fun t226 => (if t226 = true then (some false) else (spec_l4Literals.l0 kj1 l0 (wrap64 (x3_1 + 1))))) else (none)))) else (some false))) else (none)) else (none)) = some r := by rw [if_pos rfl] at H; exact H
            clear H
            have H := H1
            clear H1
            by_cases c5 : 0 ≤ x3_1
            · rw [if_pos c5] at H
              have c5b0 : decide (0 ≤ x3_1) = true := decide_eq_true c5
              clear c5
              by_cases c6 : x3_1 < (l0.length : Int)
              · rw [if_pos c6] at H
                have c6b0 : decide (x3_1 < (l0.length : Int)) = true := decide_eq_true c6
                clear c6
                replace H := Option.bind_eq_some_iff.mp H
                obtain ⟨t218, A70, H⟩ := H
                replace H : (if t218 = true then (if ((rd_T34 l0 x3_1).f1).toList = ([46, 46, 46] : List UInt8) then (some false) else (if ((rd_T34 l0 x3_1).f1).toList = ([95] : List UInt8) then (some false) else (if x3_1 ≤ (l0.length : Int) then ((spec_l4In.f kj1 (l0.take (x3_1 : Int).toNat) ((rd_T34 l0 x3_1).f0) ((rd_T34 l0 x3_1).f1) ((rd_T34 l0 x3_1).f2) ((rd_T34 l0 x3_1).f3) ((rd_T34 l0 x3_1).f4)).bind fun t226 => (if t226 = true then (some false) else (spec_l4Literals.l0 kj1 l0 (wrap64 (x3_1 + 1))))) else (none)))) else (some false)) = some r := H
                have A7 := Aside0.mk A70
                clear A70
                by_cases c8 : t218 = true
                · subst c8
                  have H1 : (if ((rd_T34 l0 x3_1).f1).toList = ([46, 46, 46] : List UInt8) then (some false) else (if ((rd_T34 l0 x3_1).f1).toList = ([95] : List UInt8) then (some false) else (if x3_1 ≤ (l0.length : Int) then ((spec_l4In.f kj1 (l0.take (x3_1 : Int).toNat) ((rd_T34 l0 x3_1).f0) ((rd_T34 l0 x3_1).f1) ((rd_T34 l0 x3_1).f2) ((rd_T34 l0 x3_1).f3) ((rd_T34 l0 x3_1).f4)).bind fun t226 => (if t226 = true then (some false) else (spec_l4Literals.l0 kj1 l0 (wrap64 (x3_1 + 1))))) else (none)))) = some r := by rw [if_pos rfl] at H; exact H
                  clear H
                  have H := H1
                  clear H1
                  by_cases c9 : ((rd_T34 l0 x3_1).f1).toList = ([46, 46, 46] : List UInt8)
                  · rw [if_pos c9] at H
                    have c9b0 : (((rd_T34 l0 x3_1).f1).toList == ([46, 46, 46] : List UInt8)) = true := beq_iff_eq.mpr c9
                    have c9b1 : (((rd_T34 l0 x3_1).f1).toList != ([46, 46, 46] : List UInt8)) = false := bne_eq_false_iff_eq.mpr c9
                    clear c9
                    obtain rfl := Option.some.inj H
                    try go_wp2
                    have n0_ := Aside0.mk (below_drew1 HB.out)
                    clear HB
                    have HB := n0_
                    clear n0_
                    have p217 : 0 ≤ (x3_1 : Int) := of_decide_eq_true (by first | (with_reducible assumption) | assumption)
                    have q217 : x3_1 < (l0.length : Int) := of_decide_eq_true (by first | (with_reducible assumption) | assumption)
                    obtain ⟨ad217, A217_3, c217_3, A217_4, c217_4, e217, hx217_0, hx217_1, hx217_2, hx217_3, hx217_4, hl217_3, hi217_3, hl217_4, hi217_4⟩ := at_T34 HR0.out x3_1 p217 q217
                    have hw217_4 := hx217_4
                    have hw217_3 := hx217_3
                    have hw217_2 := hx217_2
                    have hw217_1 := hx217_1
                    have hw217_0 := hx217_0
                    cases e217
                    replace hx217_0 := (HB.out.cell (World.block_lt_of_cell? w _ hx217_0)).trans hx217_0
                    replace hx217_1 := (HB.out.cell (World.block_lt_of_cell? w _ hx217_1)).trans hx217_1
                    replace hx217_2 := (HB.out.cell (World.block_lt_of_cell? w _ hx217_2)).trans hx217_2
                    replace hx217_3 := (HB.out.cell (World.block_lt_of_cell? w _ hx217_3)).trans hx217_3
                    replace hx217_4 := (HB.out.cell (World.block_lt_of_cell? w _ hx217_4)).trans hx217_4
                    have HR217_3 := Aside0.mk hi217_3
                    have HC217_3 := Aside0.mk hl217_3
                    clear hi217_3 hl217_3
                    have HR217_4 := Aside0.mk hi217_4
                    have HC217_4 := Aside0.mk hl217_4
                    clear hi217_4 hl217_4
                    replace p217 := eq_true p217
                    replace q217 := eq_true q217
                    have p219 : 0 ≤ (x3_1 : Int) := of_decide_eq_true (by first | (with_reducible assumption) | assumption)
                    have q219 : x3_1 < (l0.length : Int) := of_decide_eq_true (by first | (with_reducible assumption) | assumption)
                    obtain ⟨ad219, A219_3, c219_3, A219_4, c219_4, e219, hx219_0, hx219_1, hx219_2, hx219_3, hx219_4, hl219_3, hi219_3, hl219_4, hi219_4⟩ := at_T34 HR0.out x3_1 p219 q219
                    have hw219_4 := hx219_4
                    have hw219_3 := hx219_3
                    have hw219_2 := hx219_2
                    have hw219_1 := hx219_1
                    have hw219_0 := hx219_0
                    obtain rfl : ad217 = ad219 := (by injection e219)
                    replace hx219_0 := (HB.out.cell (World.block_lt_of_cell? w _ hx219_0)).trans hx219_0
                    replace hx219_1 := (HB.out.cell (World.block_lt_of_cell? w _ hx219_1)).trans hx219_1
                    replace hx219_2 := (HB.out.cell (World.block_lt_of_cell? w _ hx219_2)).trans hx219_2
                    replace hx219_3 := (HB.out.cell (World.block_lt_of_cell? w _ hx219_3)).trans hx219_3
                    replace hx219_4 := (HB.out.cell (World.block_lt_of_cell? w _ hx219_4)).trans hx219_4
                    have HR219_3 := Aside0.mk hi219_3
                    have HC219_3 := Aside0.mk hl219_3
                    clear hi219_3 hl219_3
                    have HR219_4 := Aside0.mk hi219_4
                    have HC219_4 := Aside0.mk hl219_4
                    clear hi219_4 hl219_4
                    replace p219 := eq_true p219
                    replace q219 := eq_true q219
                    refine start_ (n := 32) (S := fun w' => w'.cell? (ad217.add ((x3_1).toNat * 5)) = some (.int .i64 ((rd_T34 l0 x3_1).f0)) ∧ w'.cell? ⟨(ad217.add ((x3_1).toNat * 5)).block, (ad217.add ((x3_1).toNat * 5)).off + 1, none⟩ = some (.string ((rd_T34 l0 x3_1).f1)) ∧ w'.cell? ⟨(ad217.add ((x3_1).toNat * 5)).block, (ad217.add ((x3_1).toNat * 5)).off + 2, none⟩ = some (.int .i64 ((rd_T34 l0 x3_1).f2)) ∧ w'.cell? ⟨(ad217.add ((x3_1).toNat * 5)).block, (ad217.add ((x3_1).toNat * 5)).off + 3, none⟩ = some (.slice A217_3 ((rd_T34 l0 x3_1).f3).length c217_3) ∧ w'.cell? ⟨(ad217.add ((x3_1).toNat * 5)).block, (ad217.add ((x3_1).toNat * 5)).off + 4, none⟩ = some (.slice A217_4 ((rd_T34 l0 x3_1).f4).length c217_4) ∧ w'.cell? (ad217.add ((x3_1).toNat * 5)) = some (.int .i64 ((rd_T34 l0 x3_1).f0)) ∧ w'.cell? ⟨(ad217.add ((x3_1).toNat * 5)).block, (ad217.add ((x3_1).toNat * 5)).off + 1, none⟩ = some (.string ((rd_T34 l0 x3_1).f1)) ∧ w'.cell? ⟨(ad217.add ((x3_1).toNat * 5)).block, (ad217.add ((x3_1).toNat * 5)).off + 2, none⟩ = some (.int .i64 ((rd_T34 l0 x3_1).f2)) ∧ w'.cell? ⟨(ad217.add ((x3_1).toNat * 5)).block, (ad217.add ((x3_1).toNat * 5)).off + 3, none⟩ = some (.slice A219_3 ((rd_T34 l0 x3_1).f3).length c219_3) ∧ w'.cell? ⟨(ad217.add ((x3_1).toNat * 5)).block, (ad217.add ((x3_1).toNat * 5)).off + 4, none⟩ = some (.slice A219_4 ((rd_T34 l0 x3_1).f4).length c219_4)) (ds := []) #[false, false, false, false, false, false, false, false, false, false, false, false, false, false, false, false, false, false, false, false, false, false, false, false, false, false, false, false, false, false, false, false] (by kernel_rfl) rfl rfl ⟨((HB.out.cell (World.block_lt_of_cell? w _ hw217_0)).trans hw217_0), ((HB.out.cell (World.block_lt_of_cell? w _ hw217_1)).trans hw217_1), ((HB.out.cell (World.block_lt_of_cell? w _ hw217_2)).trans hw217_2), ((HB.out.cell (World.block_lt_of_cell? w _ hw217_3)).trans hw217_3), ((HB.out.cell (World.block_lt_of_cell? w _ hw217_4)).trans hw217_4), ((HB.out.cell (World.block_lt_of_cell? w _ hw219_0)).trans hw219_0), ((HB.out.cell (World.block_lt_of_cell? w _ hw219_1)).trans hw219_1), ((HB.out.cell (World.block_lt_of_cell? w _ hw219_2)).trans hw219_2), ((HB.out.cell (World.block_lt_of_cell? w _ hw219_3)).trans hw219_3), ((HB.out.cell (World.block_lt_of_cell? w _ hw219_4)).trans hw219_4)⟩ (fun hHeld => ?_); refine with_tabW spec_l4Literals.tab4 spec_l4Literals.bits4 (fun HT_ HW_ => ?_)
                    generalize wc.drew = w10 at HB HR217_3 HR217_4 HR219_3 HR219_4 hx217_0 hx217_1 hx217_2 hx217_3 hx217_4 hx219_0 hx219_1 hx219_2 hx219_3 hx219_4 hHeld ⊢
                    refine pure_ (i := 0) (N := some 14) (v := ?_) (a' := ?_) #[true, false, false, false, false, false, false, false, false, false, false, false, false, false, false, false, false, false, false, false, false, false, false, false, false, false, false, false, false, false, false, false] rfl rfl (any_of HT_.out (by kernel_rfl)) (fun _ _ _ h => h) (Or.inl ⟨by rfl, ?_⟩) ?_ ?_
                    rotate_left
                    · intro w'
                      go_simp
                      with_reducible rfl
                    rotate_left
                    · simp only [Act.put, List.setIfInBounds_toArray, List.set_cons_zero, List.set_cons_succ, i64_w, i32_w]
                      rfl
                    refine pure_ (i := 1) (N := some 15) (v := ?_) (a' := ?_) #[true, true, false, false, false, false, false, false, false, false, false, false, false, false, false, false, false, false, false, false, false, false, false, false, false, false, false, false, false, false, false, false] rfl rfl (any_of HT_.out (by kernel_rfl)) (fun _ _ _ h => h) (Or.inl ⟨by rfl, ?_⟩) ?_ ?_
                    rotate_left
                    · intro w'
                      go_simp
                      with_reducible rfl
                    rotate_left
                    · simp only [Act.put, List.setIfInBounds_toArray, List.set_cons_zero, List.set_cons_succ, i64_w, i32_w]
                      rfl
                    refine pure_ (i := 2) (N := some 16) (v := ?_) (a' := ?_) #[true, true, true, false, false, false, false, false, false, false, false, false, false, false, false, false, false, false, false, false, false, false, false, false, false, false, false, false, false, false, false, false] rfl rfl (any_of HT_.out (by kernel_rfl)) (fun _ _ _ h => h) (Or.inl ⟨by rfl, ?_⟩) ?_ ?_
                    rotate_left
                    · intro w'
                      go_simp
                      with_reducible rfl
                    rotate_left
                    · simp only [Act.put, List.setIfInBounds_toArray, List.set_cons_zero, List.set_cons_succ, i64_w, i32_w]
                      rfl
                    refine take_ (i := 3) (N := some 17) (v := ?_) (a' := ?_) #[true, true, true, true, false, false, false, false, false, false, false, false, false, false, false, false, false, false, false, false, false, false, false, false, false, false, false, false, false, false, false, false] rfl rfl (take_ofW HT_.out HW_.out (by kernel_rfl)) (fun _ _ _ h => h) (Or.inl ⟨by rfl, ?_⟩) hHeld ?_ ?_
                    rotate_left
                    · rintro w' ⟨s0, s1, s2, s3, s4, s5, s6, s7, s8, s9⟩
                      go_simp
                      with_reducible rfl
                    rotate_left
                    · simp only [Act.put, List.setIfInBounds_toArray, List.set_cons_zero, List.set_cons_succ, i64_w, i32_w]
                      rfl
                    refine one_ (i := 4) (N := some 18) #[true, true, true, true, true, false, false, false, false, false, false, false, false, false, false, false, false, false, false, false, false, false, false, false, false, false, false, false, false, false, false, false] rfl rfl (one_of HT_.out (by kernel_rfl)) (by decide) (fun K hK => ?_)
                    refine goes_ Try.func46 (by kernel_rfl) rfl #[.agg #[.int .i64 ((rd_T34 l0 x3_1).f0), .string ((rd_T34 l0 x3_1).f1), .int .i64 ((rd_T34 l0 x3_1).f2), .slice A217_3 ((rd_T34 l0 x3_1).f3).length c217_3, .slice A217_4 ((rd_T34 l0 x3_1).f4).length c217_4]] (by rfl) rfl rfl (by (try simp only [List.map_toArray, List.map_cons, List.map_nil]); first | done | rfl | (simp only [List.length_drop, List.length_take]; rfl)) ?_
                    with_reducible refine (spec_l3Is.calls ((rd_T34 l0 x3_1).f0) ((rd_T34 l0 x3_1).f1) ((rd_T34 l0 x3_1).f2) _ _ ((rd_T34 l0 x3_1).f3) _ _ ((rd_T34 l0 x3_1).f4) true _ ?side1 ?side2 ?side3 ?side4 A7.out).mono ?_
                    (case side1 => repeat (first | exact (Kd.C_below HR217_3.out HB.out) | (with_reducible refine Kd.C_alloc ?_ _) | (with_reducible refine Kd.C_drewN ?_ _) | (with_reducible refine Kd.C_drew ?_)))
                    (case side2 => exact HC217_3.out)
                    (case side3 => repeat (first | exact (Kd.C_below HR217_4.out HB.out) | (with_reducible refine Kd.C_alloc ?_ _) | (with_reducible refine Kd.C_drewN ?_ _) | (with_reducible refine Kd.C_drew ?_)))
                    (case side4 => exact HC217_4.out)
                    rintro e w11 ⟨rfl, hb⟩
                    refine ⟨_, rfl, ?_⟩
                    have n0_ := Aside0.mk (below_step (by repeat (first | (with_reducible first | exact HB.out | apply below_alloc | apply pw_below_drewN | apply below_drew1) | exact HB.out)) hb)
                    clear HB
                    have HB := n0_
                    clear n0_
                    (try clear hb)
                    (try clear hb2)
                    (try clear hk)
                    (try clear hi)
                    refine hK.out _ _ ⟨((HB.out.cell (World.block_lt_of_cell? w _ hw217_0)).trans hw217_0), ((HB.out.cell (World.block_lt_of_cell? w _ hw217_1)).trans hw217_1), ((HB.out.cell (World.block_lt_of_cell? w _ hw217_2)).trans hw217_2), ((HB.out.cell (World.block_lt_of_cell? w _ hw217_3)).trans hw217_3), ((HB.out.cell (World.block_lt_of_cell? w _ hw217_4)).trans hw217_4), ((HB.out.cell (World.block_lt_of_cell? w _ hw219_0)).trans hw219_0), ((HB.out.cell (World.block_lt_of_cell? w _ hw219_1)).trans hw219_1), ((HB.out.cell (World.block_lt_of_cell? w _ hw219_2)).trans hw219_2), ((HB.out.cell (World.block_lt_of_cell? w _ hw219_3)).trans hw219_3), ((HB.out.cell (World.block_lt_of_cell? w _ hw219_4)).trans hw219_4)⟩ (fun hHeld => ?_)
                    clear hK K
                    refine norm_ (a' := ?_) ?_ ?_
                    rotate_left
                    · show Act.put _ (some 18) _ = _
                      simp only [Act.put, List.setIfInBounds_toArray, List.set_cons_zero, List.set_cons_succ, i64_w, i32_w]
                      rfl
                    refine pure_ (i := 5) (N := some 19) (v := ?_) (a' := ?_) #[true, true, true, true, true, true, false, false, false, false, false, false, false, false, false, false, false, false, false, false, false, false, false, false, false, false, false, false, false, false, false, false] rfl rfl (any_of HT_.out (by kernel_rfl)) (fun _ _ _ h => h) (Or.inl ⟨by rfl, ?_⟩) ?_ ?_
                    rotate_left
                    · intro w'
                      go_simp
                      with_reducible rfl
                    rotate_left
                    · simp only [Act.put, List.setIfInBounds_toArray, List.set_cons_zero, List.set_cons_succ, i64_w, i32_w]
                      rfl
                    refine pure_ (i := 6) (N := some 20) (v := ?_) (a' := ?_) #[true, true, true, true, true, true, true, false, false, false, false, false, false, false, false, false, false, false, false, false, false, false, false, false, false, false, false, false, false, false, false, false] rfl rfl (any_of HT_.out (by kernel_rfl)) (fun _ _ _ h => h) (Or.inl ⟨by rfl, ?_⟩) ?_ ?_
                    rotate_left
                    · intro w'
                      go_simp
                      with_reducible rfl
                    rotate_left
                    · simp only [Act.put, List.setIfInBounds_toArray, List.set_cons_zero, List.set_cons_succ, i64_w, i32_w]
                      rfl
                    refine pure_ (i := 7) (N := some 21) (v := ?_) (a' := ?_) #[true, true, true, true, true, true, true, true, false, false, false, false, false, false, false, false, false, false, false, false, false, false, false, false, false, false, false, false, false, false, false, false] rfl rfl (any_of HT_.out (by kernel_rfl)) (fun _ _ _ h => h) (Or.inl ⟨by rfl, ?_⟩) ?_ ?_
                    rotate_left
                    · intro w'
                      go_simp
                      with_reducible rfl
                    rotate_left
                    · simp only [Act.put, List.setIfInBounds_toArray, List.set_cons_zero, List.set_cons_succ, i64_w, i32_w]
                      rfl
                    refine pure_ (i := 8) (N := some 22) (v := ?_) (a' := ?_) #[true, true, true, true, true, true, true, true, true, false, false, false, false, false, false, false, false, false, false, false, false, false, false, false, false, false, false, false, false, false, false, false] rfl rfl (any_of HT_.out (by kernel_rfl)) (fun _ _ _ h => h) (Or.inl ⟨by rfl, ?_⟩) ?_ ?_
                    rotate_left
                    · intro w'
                      go_simp
                      with_reducible rfl
                    rotate_left
                    · simp only [Act.put, List.setIfInBounds_toArray, List.set_cons_zero, List.set_cons_succ, i64_w, i32_w]
                      rfl
                    refine pure_ (i := 9) (N := some 23) (v := ?_) (a' := ?_) #[true, true, true, true, true, true, true, true, true, true, false, false, false, false, false, false, false, false, false, false, false, false, false, false, false, false, false, false, false, false, false, false] rfl rfl (any_of HT_.out (by kernel_rfl)) (fun _ _ _ h => h) (Or.inl ⟨by rfl, ?_⟩) ?_ ?_
                    rotate_left
                    · intro w'
                      go_simp
                      with_reducible rfl
                    rotate_left
                    · simp only [Act.put, List.setIfInBounds_toArray, List.set_cons_zero, List.set_cons_succ, i64_w, i32_w]
                      rfl
                    refine pure_ (i := 10) (N := some 24) (v := ?_) (a' := ?_) #[true, true, true, true, true, true, true, true, true, true, true, false, false, false, false, false, false, false, false, false, false, false, false, false, false, false, false, false, false, false, false, false] rfl rfl (any_of HT_.out (by kernel_rfl)) (fun _ _ _ h => h) (Or.inl ⟨by rfl, ?_⟩) ?_ ?_
                    rotate_left
                    · intro w'
                      go_simp
                      with_reducible rfl
                    rotate_left
                    · simp only [Act.put, List.setIfInBounds_toArray, List.set_cons_zero, List.set_cons_succ, i64_w, i32_w]
                      rfl
                    refine take_ (i := 11) (N := some 25) (v := ?_) (a' := ?_) #[true, true, true, true, true, true, true, true, true, true, true, true, false, false, false, false, false, false, false, false, false, false, false, false, false, false, false, false, false, false, false, false] rfl rfl (take_ofW HT_.out HW_.out (by kernel_rfl)) (fun _ _ _ h => h) (Or.inl ⟨by rfl, ?_⟩) hHeld ?_ ?_
                    rotate_left
                    · rintro w' ⟨s0, s1, s2, s3, s4, s5, s6, s7, s8, s9⟩
                      go_simp
                      with_reducible rfl
                    rotate_left
                    · simp only [Act.put, List.setIfInBounds_toArray, List.set_cons_zero, List.set_cons_succ, i64_w, i32_w]
                      rfl
                    refine pure_ (i := 12) (N := some 26) (v := ?_) (a' := ?_) #[true, true, true, true, true, true, true, true, true, true, true, true, true, false, false, false, false, false, false, false, false, false, false, false, false, false, false, false, false, false, false, false] rfl rfl (any_of HT_.out (by kernel_rfl)) (fun _ _ _ h => h) (Or.inl ⟨by rfl, ?_⟩) ?_ ?_
                    rotate_left
                    · intro w'
                      go_simp
                      with_reducible rfl
                    rotate_left
                    · simp only [Act.put, List.setIfInBounds_toArray, List.set_cons_zero, List.set_cons_succ, i64_w, i32_w]
                      rfl
                    refine pure_ (i := 13) (N := some 27) (v := ?_) (a' := ?_) #[true, true, true, true, true, true, true, true, true, true, true, true, true, true, false, false, false, false, false, false, false, false, false, false, false, false, false, false, false, false, false, false] rfl rfl (any_of HT_.out (by kernel_rfl)) (fun _ _ _ h => h) (Or.inl ⟨by rfl, ?_⟩) ?_ ?_
                    rotate_left
                    · intro w'
                      go_simp
                      with_reducible rfl
                    rotate_left
                    · simp only [Act.put, List.setIfInBounds_toArray, List.set_cons_zero, List.set_cons_succ, i64_w, i32_w]
                      rfl
                    refine pure_ (i := 14) (N := some 28) (v := ?_) (a' := ?_) #[true, true, true, true, true, true, true, true, true, true, true, true, true, true, true, false, false, false, false, false, false, false, false, false, false, false, false, false, false, false, false, false] rfl rfl (any_of HT_.out (by kernel_rfl)) (fun _ _ _ h => h) (Or.inl ⟨by rfl, ?_⟩) ?_ ?_
                    rotate_left
                    · intro w'
                      go_simp
                      with_reducible rfl
                    rotate_left
                    · simp only [Act.put, List.setIfInBounds_toArray, List.set_cons_zero, List.set_cons_succ, i64_w, i32_w]
                      rfl
                    refine pure_ (i := 15) (N := some 29) (v := undef) (a' := ?_) #[true, true, true, true, true, true, true, true, true, true, true, true, true, true, true, true, false, false, false, false, false, false, false, false, false, false, false, false, false, false, false, false] rfl rfl (any_of HT_.out (by kernel_rfl)) (fun _ _ _ h => h) (Or.inr ⟨by rfl, rfl⟩) ?_ ?_
                    rotate_left
                    · simp only [Act.put, List.setIfInBounds_toArray, List.set_cons_zero, List.set_cons_succ, i64_w, i32_w]
                      rfl
                    refine pure_ (i := 16) (N := some 30) (v := undef) (a' := ?_) #[true, true, true, true, true, true, true, true, true, true, true, true, true, true, true, true, true, false, false, false, false, false, false, false, false, false, false, false, false, false, false, false] rfl rfl (any_of HT_.out (by kernel_rfl)) (fun _ _ _ h => h) (Or.inr ⟨by rfl, rfl⟩) ?_ ?_
                    rotate_left
                    · simp only [Act.put, List.setIfInBounds_toArray, List.set_cons_zero, List.set_cons_succ, i64_w, i32_w]
                      rfl
                    refine pure_ (i := 17) (N := some 31) (v := undef) (a' := ?_) #[true, true, true, true, true, true, true, true, true, true, true, true, true, true, true, true, true, true, false, false, false, false, false, false, false, false, false, false, false, false, false, false] rfl rfl (any_of HT_.out (by kernel_rfl)) (fun _ _ _ h => h) (Or.inr ⟨by rfl, rfl⟩) ?_ ?_
                    rotate_left
                    · simp only [Act.put, List.setIfInBounds_toArray, List.set_cons_zero, List.set_cons_succ, i64_w, i32_w]
                      rfl
                    refine pure_ (i := 18) (N := some 32) (v := undef) (a' := ?_) #[true, true, true, true, true, true, true, true, true, true, true, true, true, true, true, true, true, true, true, false, false, false, false, false, false, false, false, false, false, false, false, false] rfl rfl (any_of HT_.out (by kernel_rfl)) (fun _ _ _ h => h) (Or.inr ⟨by rfl, rfl⟩) ?_ ?_
                    rotate_left
                    · simp only [Act.put, List.setIfInBounds_toArray, List.set_cons_zero, List.set_cons_succ, i64_w, i32_w]
                      rfl
                    refine pure_ (i := 19) (N := some 33) (v := undef) (a' := ?_) #[true, true, true, true, true, true, true, true, true, true, true, true, true, true, true, true, true, true, true, true, false, false, false, false, false, false, false, false, false, false, false, false] rfl rfl (any_of HT_.out (by kernel_rfl)) (fun _ _ _ h => h) (Or.inr ⟨by rfl, rfl⟩) ?_ ?_
                    rotate_left
                    · simp only [Act.put, List.setIfInBounds_toArray, List.set_cons_zero, List.set_cons_succ, i64_w, i32_w]
                      rfl
                    refine pure_ (i := 20) (N := some 34) (v := undef) (a' := ?_) #[true, true, true, true, true, true, true, true, true, true, true, true, true, true, true, true, true, true, true, true, true, false, false, false, false, false, false, false, false, false, false, false] rfl rfl (any_of HT_.out (by kernel_rfl)) (fun _ _ _ h => h) (Or.inr ⟨by rfl, rfl⟩) ?_ ?_
                    rotate_left
                    · simp only [Act.put, List.setIfInBounds_toArray, List.set_cons_zero, List.set_cons_succ, i64_w, i32_w]
                      rfl
                    refine pure_ (i := 21) (N := some 35) (v := ?_) (a' := ?_) #[true, true, true, true, true, true, true, true, true, true, true, true, true, true, true, true, true, true, true, true, true, true, false, false, false, false, false, false, false, false, false, false] rfl rfl (any_of HT_.out (by kernel_rfl)) (fun _ _ _ h => h) (Or.inl ⟨by rfl, ?_⟩) ?_ ?_
                    rotate_left
                    · intro w'
                      go_simp
                      with_reducible rfl
                    rotate_left
                    · simp only [Act.put, List.setIfInBounds_toArray, List.set_cons_zero, List.set_cons_succ, i64_w, i32_w]
                      rfl
                    refine pure_ (i := 22) (N := some 36) (v := ?_) (a' := ?_) #[true, true, true, true, true, true, true, true, true, true, true, true, true, true, true, true, true, true, true, true, true, true, true, false, false, false, false, false, false, false, false, false] rfl rfl (any_of HT_.out (by kernel_rfl)) (fun _ _ _ h => h) (Or.inl ⟨by rfl, ?_⟩) ?_ ?_
                    rotate_left
                    · intro w'
                      go_simp
                      with_reducible rfl
                    rotate_left
                    · simp only [Act.put, List.setIfInBounds_toArray, List.set_cons_zero, List.set_cons_succ, i64_w, i32_w]
                      rfl
                    refine pure_ (i := 23) (N := some 37) (v := undef) (a' := ?_) #[true, true, true, true, true, true, true, true, true, true, true, true, true, true, true, true, true, true, true, true, true, true, true, true, false, false, false, false, false, false, false, false] rfl rfl (any_of HT_.out (by kernel_rfl)) (fun _ _ _ h => h) (Or.inr ⟨by rfl, rfl⟩) ?_ ?_
                    rotate_left
                    · simp only [Act.put, List.setIfInBounds_toArray, List.set_cons_zero, List.set_cons_succ, i64_w, i32_w]
                      rfl
                    refine pure_ (i := 24) (N := some 38) (v := undef) (a' := ?_) #[true, true, true, true, true, true, true, true, true, true, true, true, true, true, true, true, true, true, true, true, true, true, true, true, true, false, false, false, false, false, false, false] rfl rfl (any_of HT_.out (by kernel_rfl)) (fun _ _ _ h => h) (Or.inr ⟨by rfl, rfl⟩) ?_ ?_
                    rotate_left
                    · simp only [Act.put, List.setIfInBounds_toArray, List.set_cons_zero, List.set_cons_succ, i64_w, i32_w]
                      rfl
                    refine pure_ (i := 25) (N := some 39) (v := undef) (a' := ?_) #[true, true, true, true, true, true, true, true, true, true, true, true, true, true, true, true, true, true, true, true, true, true, true, true, true, true, false, false, false, false, false, false] rfl rfl (any_of HT_.out (by kernel_rfl)) (fun _ _ _ h => h) (Or.inr ⟨by rfl, rfl⟩) ?_ ?_
                    rotate_left
                    · simp only [Act.put, List.setIfInBounds_toArray, List.set_cons_zero, List.set_cons_succ, i64_w, i32_w]
                      rfl
                    refine pure_ (i := 26) (N := some 40) (v := undef) (a' := ?_) #[true, true, true, true, true, true, true, true, true, true, true, true, true, true, true, true, true, true, true, true, true, true, true, true, true, true, true, false, false, false, false, false] rfl rfl (any_of HT_.out (by kernel_rfl)) (fun _ _ _ h => h) (Or.inr ⟨by rfl, rfl⟩) ?_ ?_
                    rotate_left
                    · simp only [Act.put, List.setIfInBounds_toArray, List.set_cons_zero, List.set_cons_succ, i64_w, i32_w]
                      rfl
                    refine pure_ (i := 27) (N := some 41) (v := undef) (a' := ?_) #[true, true, true, true, true, true, true, true, true, true, true, true, true, true, true, true, true, true, true, true, true, true, true, true, true, true, true, true, false, false, false, false] rfl rfl (any_of HT_.out (by kernel_rfl)) (fun _ _ _ h => h) (Or.inr ⟨by rfl, rfl⟩) ?_ ?_
                    rotate_left
                    · simp only [Act.put, List.setIfInBounds_toArray, List.set_cons_zero, List.set_cons_succ, i64_w, i32_w]
                      rfl
                    refine pure_ (i := 28) (N := some 42) (v := undef) (a' := ?_) #[true, true, true, true, true, true, true, true, true, true, true, true, true, true, true, true, true, true, true, true, true, true, true, true, true, true, true, true, true, false, false, false] rfl rfl (any_of HT_.out (by kernel_rfl)) (fun _ _ _ h => h) (Or.inr ⟨by rfl, rfl⟩) ?_ ?_
                    rotate_left
                    · simp only [Act.put, List.setIfInBounds_toArray, List.set_cons_zero, List.set_cons_succ, i64_w, i32_w]
                      rfl
                    refine pure_ (i := 29) (N := some 43) (v := undef) (a' := ?_) #[true, true, true, true, true, true, true, true, true, true, true, true, true, true, true, true, true, true, true, true, true, true, true, true, true, true, true, true, true, true, false, false] rfl rfl (any_of HT_.out (by kernel_rfl)) (fun _ _ _ h => h) (Or.inr ⟨by rfl, rfl⟩) ?_ ?_
                    rotate_left
                    · simp only [Act.put, List.setIfInBounds_toArray, List.set_cons_zero, List.set_cons_succ, i64_w, i32_w]
                      rfl
                    refine pure_ (i := 30) (N := some 44) (v := undef) (a' := ?_) #[true, true, true, true, true, true, true, true, true, true, true, true, true, true, true, true, true, true, true, true, true, true, true, true, true, true, true, true, true, true, true, false] rfl rfl (any_of HT_.out (by kernel_rfl)) (fun _ _ _ h => h) (Or.inr ⟨by rfl, rfl⟩) ?_ ?_
                    rotate_left
                    · simp only [Act.put, List.setIfInBounds_toArray, List.set_cons_zero, List.set_cons_succ, i64_w, i32_w]
                      rfl
                    refine pure_ (i := 31) (N := some 45) (v := ?_) (a' := ?_) #[true, true, true, true, true, true, true, true, true, true, true, true, true, true, true, true, true, true, true, true, true, true, true, true, true, true, true, true, true, true, true, true] rfl rfl (any_of HT_.out (by kernel_rfl)) (fun _ _ _ h => h) (Or.inl ⟨by rfl, ?_⟩) ?_ ?_
                    rotate_left
                    · intro w'
                      go_simp
                      with_reducible rfl
                    rotate_left
                    · simp only [Act.put, List.setIfInBounds_toArray, List.set_cons_zero, List.set_cons_succ, i64_w, i32_w]
                      rfl
                    refine done_ (done_of HT_.out (by kernel_rfl)) ?_
                    try go_wp2
                    go_ret
                    exact ⟨by first | rfl | (simp [errW_none, errW_some] <;> rfl) | (simp [*, errW_none, errW_some] <;> rfl), by repeat (first | (with_reducible first | exact HB.out | apply below_alloc | apply pw_below_drewN | apply below_drew1) | exact HB.out)⟩
                  · rw [if_neg c9] at H
                    have c9b0 : (((rd_T34 l0 x3_1).f1).toList == ([46, 46, 46] : List UInt8)) = false := beq_eq_false_iff_ne.mpr c9
                    have c9b1 : (((rd_T34 l0 x3_1).f1).toList != ([46, 46, 46] : List UInt8)) = true := bne_iff_ne.mpr c9
                    by_cases c12 : ((rd_T34 l0 x3_1).f1).toList = ([95] : List UInt8)
                    · rw [if_pos c12] at H
                      have c12b0 : (((rd_T34 l0 x3_1).f1).toList == ([95] : List UInt8)) = true := beq_iff_eq.mpr c12
                      have c12b1 : (((rd_T34 l0 x3_1).f1).toList != ([95] : List UInt8)) = false := bne_eq_false_iff_eq.mpr c12
                      clear c12
                      obtain rfl := Option.some.inj H
                      try go_wp2
                      have n0_ := Aside0.mk (below_drew1 HB.out)
                      clear HB
                      have HB := n0_
                      clear n0_
                      have p217 : 0 ≤ (x3_1 : Int) := of_decide_eq_true (by first | (with_reducible assumption) | assumption)
                      have q217 : x3_1 < (l0.length : Int) := of_decide_eq_true (by first | (with_reducible assumption) | assumption)
                      obtain ⟨ad217, A217_3, c217_3, A217_4, c217_4, e217, hx217_0, hx217_1, hx217_2, hx217_3, hx217_4, hl217_3, hi217_3, hl217_4, hi217_4⟩ := at_T34 HR0.out x3_1 p217 q217
                      have hw217_4 := hx217_4
                      have hw217_3 := hx217_3
                      have hw217_2 := hx217_2
                      have hw217_1 := hx217_1
                      have hw217_0 := hx217_0
                      cases e217
                      replace hx217_0 := (HB.out.cell (World.block_lt_of_cell? w _ hx217_0)).trans hx217_0
                      replace hx217_1 := (HB.out.cell (World.block_lt_of_cell? w _ hx217_1)).trans hx217_1
                      replace hx217_2 := (HB.out.cell (World.block_lt_of_cell? w _ hx217_2)).trans hx217_2
                      replace hx217_3 := (HB.out.cell (World.block_lt_of_cell? w _ hx217_3)).trans hx217_3
                      replace hx217_4 := (HB.out.cell (World.block_lt_of_cell? w _ hx217_4)).trans hx217_4
                      have HR217_3 := Aside0.mk hi217_3
                      have HC217_3 := Aside0.mk hl217_3
                      clear hi217_3 hl217_3
                      have HR217_4 := Aside0.mk hi217_4
                      have HC217_4 := Aside0.mk hl217_4
                      clear hi217_4 hl217_4
                      replace p217 := eq_true p217
                      replace q217 := eq_true q217
                      have p219 : 0 ≤ (x3_1 : Int) := of_decide_eq_true (by first | (with_reducible assumption) | assumption)
                      have q219 : x3_1 < (l0.length : Int) := of_decide_eq_true (by first | (with_reducible assumption) | assumption)
                      obtain ⟨ad219, A219_3, c219_3, A219_4, c219_4, e219, hx219_0, hx219_1, hx219_2, hx219_3, hx219_4, hl219_3, hi219_3, hl219_4, hi219_4⟩ := at_T34 HR0.out x3_1 p219 q219
                      have hw219_4 := hx219_4
                      have hw219_3 := hx219_3
                      have hw219_2 := hx219_2
                      have hw219_1 := hx219_1
                      have hw219_0 := hx219_0
                      obtain rfl : ad217 = ad219 := (by injection e219)
                      replace hx219_0 := (HB.out.cell (World.block_lt_of_cell? w _ hx219_0)).trans hx219_0
                      replace hx219_1 := (HB.out.cell (World.block_lt_of_cell? w _ hx219_1)).trans hx219_1
                      replace hx219_2 := (HB.out.cell (World.block_lt_of_cell? w _ hx219_2)).trans hx219_2
                      replace hx219_3 := (HB.out.cell (World.block_lt_of_cell? w _ hx219_3)).trans hx219_3
                      replace hx219_4 := (HB.out.cell (World.block_lt_of_cell? w _ hx219_4)).trans hx219_4
                      have HR219_3 := Aside0.mk hi219_3
                      have HC219_3 := Aside0.mk hl219_3
                      clear hi219_3 hl219_3
                      have HR219_4 := Aside0.mk hi219_4
                      have HC219_4 := Aside0.mk hl219_4
                      clear hi219_4 hl219_4
                      replace p219 := eq_true p219
                      replace q219 := eq_true q219
                      have p220 : 0 ≤ (x3_1 : Int) := of_decide_eq_true (by first | (with_reducible assumption) | assumption)
                      have q220 : x3_1 < (l0.length : Int) := of_decide_eq_true (by first | (with_reducible assumption) | assumption)
                      obtain ⟨ad220, A220_3, c220_3, A220_4, c220_4, e220, hx220_0, hx220_1, hx220_2, hx220_3, hx220_4, hl220_3, hi220_3, hl220_4, hi220_4⟩ := at_T34 HR0.out x3_1 p220 q220
                      have hw220_4 := hx220_4
                      have hw220_3 := hx220_3
                      have hw220_2 := hx220_2
                      have hw220_1 := hx220_1
                      have hw220_0 := hx220_0
                      obtain rfl : ad217 = ad220 := (by injection e220)
                      replace hx220_0 := (HB.out.cell (World.block_lt_of_cell? w _ hx220_0)).trans hx220_0
                      replace hx220_1 := (HB.out.cell (World.block_lt_of_cell? w _ hx220_1)).trans hx220_1
                      replace hx220_2 := (HB.out.cell (World.block_lt_of_cell? w _ hx220_2)).trans hx220_2
                      replace hx220_3 := (HB.out.cell (World.block_lt_of_cell? w _ hx220_3)).trans hx220_3
                      replace hx220_4 := (HB.out.cell (World.block_lt_of_cell? w _ hx220_4)).trans hx220_4
                      have HR220_3 := Aside0.mk hi220_3
                      have HC220_3 := Aside0.mk hl220_3
                      clear hi220_3 hl220_3
                      have HR220_4 := Aside0.mk hi220_4
                      have HC220_4 := Aside0.mk hl220_4
                      clear hi220_4 hl220_4
                      replace p220 := eq_true p220
                      replace q220 := eq_true q220
                      have ea_ := Option.some.inj (hx219_3.symm.trans hx220_3)
                      injection ea_ with ea_ en_ ec_
                      subst ea_
                      subst ec_
                      clear en_
                      have ea_ := Option.some.inj (hx219_4.symm.trans hx220_4)
                      injection ea_ with ea_ en_ ec_
                      subst ea_
                      subst ec_
                      clear en_
                      refine start_ (n := 32) (S := fun w' => w'.cell? (ad217.add ((x3_1).toNat * 5)) = some (.int .i64 ((rd_T34 l0 x3_1).f0)) ∧ w'.cell? ⟨(ad217.add ((x3_1).toNat * 5)).block, (ad217.add ((x3_1).toNat * 5)).off + 1, none⟩ = some (.string ((rd_T34 l0 x3_1).f1)) ∧ w'.cell? ⟨(ad217.add ((x3_1).toNat * 5)).block, (ad217.add ((x3_1).toNat * 5)).off + 2, none⟩ = some (.int .i64 ((rd_T34 l0 x3_1).f2)) ∧ w'.cell? ⟨(ad217.add ((x3_1).toNat * 5)).block, (ad217.add ((x3_1).toNat * 5)).off + 3, none⟩ = some (.slice A217_3 ((rd_T34 l0 x3_1).f3).length c217_3) ∧ w'.cell? ⟨(ad217.add ((x3_1).toNat * 5)).block, (ad217.add ((x3_1).toNat * 5)).off + 4, none⟩ = some (.slice A217_4 ((rd_T34 l0 x3_1).f4).length c217_4) ∧ w'.cell? (ad217.add ((x3_1).toNat * 5)) = some (.int .i64 ((rd_T34 l0 x3_1).f0)) ∧ w'.cell? ⟨(ad217.add ((x3_1).toNat * 5)).block, (ad217.add ((x3_1).toNat * 5)).off + 1, none⟩ = some (.string ((rd_T34 l0 x3_1).f1)) ∧ w'.cell? ⟨(ad217.add ((x3_1).toNat * 5)).block, (ad217.add ((x3_1).toNat * 5)).off + 2, none⟩ = some (.int .i64 ((rd_T34 l0 x3_1).f2)) ∧ w'.cell? ⟨(ad217.add ((x3_1).toNat * 5)).block, (ad217.add ((x3_1).toNat * 5)).off + 3, none⟩ = some (.slice A219_3 ((rd_T34 l0 x3_1).f3).length c219_3) ∧ w'.cell? ⟨(ad217.add ((x3_1).toNat * 5)).block, (ad217.add ((x3_1).toNat * 5)).off + 4, none⟩ = some (.slice A219_4 ((rd_T34 l0 x3_1).f4).length c219_4) ∧ w'.cell? (ad217.add ((x3_1).toNat * 5)) = some (.int .i64 ((rd_T34 l0 x3_1).f0)) ∧ w'.cell? ⟨(ad217.add ((x3_1).toNat * 5)).block, (ad217.add ((x3_1).toNat * 5)).off + 1, none⟩ = some (.string ((rd_T34 l0 x3_1).f1)) ∧ w'.cell? ⟨(ad217.add ((x3_1).toNat * 5)).block, (ad217.add ((x3_1).toNat * 5)).off + 2, none⟩ = some (.int .i64 ((rd_T34 l0 x3_1).f2)) ∧ w'.cell? ⟨(ad217.add ((x3_1).toNat * 5)).block, (ad217.add ((x3_1).toNat * 5)).off + 3, none⟩ = some (.slice A219_3 ((rd_T34 l0 x3_1).f3).length c219_3) ∧ w'.cell? ⟨(ad217.add ((x3_1).toNat * 5)).block, (ad217.add ((x3_1).toNat * 5)).off + 4, none⟩ = some (.slice A219_4 ((rd_T34 l0 x3_1).f4).length c219_4)) (ds := []) #[false, false, false, false, false, false, false, false, false, false, false, false, false, false, false, false, false, false, false, false, false, false, false, false, false, false, false, false, false, false, false, false] (by kernel_rfl) rfl rfl ⟨((HB.out.cell (World.block_lt_of_cell? w _ hw217_0)).trans hw217_0), ((HB.out.cell (World.block_lt_of_cell? w _ hw217_1)).trans hw217_1), ((HB.out.cell (World.block_lt_of_cell? w _ hw217_2)).trans hw217_2), ((HB.out.cell (World.block_lt_of_cell? w _ hw217_3)).trans hw217_3), ((HB.out.cell (World.block_lt_of_cell? w _ hw217_4)).trans hw217_4), ((HB.out.cell (World.block_lt_of_cell? w _ hw219_0)).trans hw219_0), ((HB.out.cell (World.block_lt_of_cell? w _ hw219_1)).trans hw219_1), ((HB.out.cell (World.block_lt_of_cell? w _ hw219_2)).trans hw219_2), ((HB.out.cell (World.block_lt_of_cell? w _ hw219_3)).trans hw219_3), ((HB.out.cell (World.block_lt_of_cell? w _ hw219_4)).trans hw219_4), ((HB.out.cell (World.block_lt_of_cell? w _ hw220_0)).trans hw220_0), ((HB.out.cell (World.block_lt_of_cell? w _ hw220_1)).trans hw220_1), ((HB.out.cell (World.block_lt_of_cell? w _ hw220_2)).trans hw220_2), ((HB.out.cell (World.block_lt_of_cell? w _ hw220_3)).trans hw220_3), ((HB.out.cell (World.block_lt_of_cell? w _ hw220_4)).trans hw220_4)⟩ (fun hHeld => ?_); refine with_tabW spec_l4Literals.tab4 spec_l4Literals.bits4 (fun HT_ HW_ => ?_)
                      generalize wc.drew = w13 at HB HR217_3 HR217_4 HR219_3 HR219_4 HR220_3 HR220_4 hx217_0 hx217_1 hx217_2 hx217_3 hx217_4 hx219_0 hx219_1 hx219_2 hx219_3 hx219_4 hx220_0 hx220_1 hx220_2 hx220_3 hx220_4 hHeld ⊢
                      refine pure_ (i := 0) (N := some 14) (v := ?_) (a' := ?_) #[true, false, false, false, false, false, false, false, false, false, false, false, false, false, false, false, false, false, false, false, false, false, false, false, false, false, false, false, false, false, false, false] rfl rfl (any_of HT_.out (by kernel_rfl)) (fun _ _ _ h => h) (Or.inl ⟨by rfl, ?_⟩) ?_ ?_
                      rotate_left
                      · intro w'
                        go_simp
                        with_reducible rfl
                      rotate_left
                      · simp only [Act.put, List.setIfInBounds_toArray, List.set_cons_zero, List.set_cons_succ, i64_w, i32_w]
                        rfl
                      refine pure_ (i := 1) (N := some 15) (v := ?_) (a' := ?_) #[true, true, false, false, false, false, false, false, false, false, false, false, false, false, false, false, false, false, false, false, false, false, false, false, false, false, false, false, false, false, false, false] rfl rfl (any_of HT_.out (by kernel_rfl)) (fun _ _ _ h => h) (Or.inl ⟨by rfl, ?_⟩) ?_ ?_
                      rotate_left
                      · intro w'
                        go_simp
                        with_reducible rfl
                      rotate_left
                      · simp only [Act.put, List.setIfInBounds_toArray, List.set_cons_zero, List.set_cons_succ, i64_w, i32_w]
                        rfl
                      refine pure_ (i := 2) (N := some 16) (v := ?_) (a' := ?_) #[true, true, true, false, false, false, false, false, false, false, false, false, false, false, false, false, false, false, false, false, false, false, false, false, false, false, false, false, false, false, false, false] rfl rfl (any_of HT_.out (by kernel_rfl)) (fun _ _ _ h => h) (Or.inl ⟨by rfl, ?_⟩) ?_ ?_
                      rotate_left
                      · intro w'
                        go_simp
                        with_reducible rfl
                      rotate_left
                      · simp only [Act.put, List.setIfInBounds_toArray, List.set_cons_zero, List.set_cons_succ, i64_w, i32_w]
                        rfl
                      refine take_ (i := 3) (N := some 17) (v := ?_) (a' := ?_) #[true, true, true, true, false, false, false, false, false, false, false, false, false, false, false, false, false, false, false, false, false, false, false, false, false, false, false, false, false, false, false, false] rfl rfl (take_ofW HT_.out HW_.out (by kernel_rfl)) (fun _ _ _ h => h) (Or.inl ⟨by rfl, ?_⟩) hHeld ?_ ?_
                      rotate_left
                      · rintro w' ⟨s0, s1, s2, s3, s4, s5, s6, s7, s8, s9, s10, s11, s12, s13, s14⟩
                        go_simp
                        with_reducible rfl
                      rotate_left
                      · simp only [Act.put, List.setIfInBounds_toArray, List.set_cons_zero, List.set_cons_succ, i64_w, i32_w]
                        rfl
                      refine one_ (i := 4) (N := some 18) #[true, true, true, true, true, false, false, false, false, false, false, false, false, false, false, false, false, false, false, false, false, false, false, false, false, false, false, false, false, false, false, false] rfl rfl (one_of HT_.out (by kernel_rfl)) (by decide) (fun K hK => ?_)
                      refine goes_ Try.func46 (by kernel_rfl) rfl #[.agg #[.int .i64 ((rd_T34 l0 x3_1).f0), .string ((rd_T34 l0 x3_1).f1), .int .i64 ((rd_T34 l0 x3_1).f2), .slice A217_3 ((rd_T34 l0 x3_1).f3).length c217_3, .slice A217_4 ((rd_T34 l0 x3_1).f4).length c217_4]] (by rfl) rfl rfl (by (try simp only [List.map_toArray, List.map_cons, List.map_nil]); first | done | rfl | (simp only [List.length_drop, List.length_take]; rfl)) ?_
                      with_reducible refine (spec_l3Is.calls ((rd_T34 l0 x3_1).f0) ((rd_T34 l0 x3_1).f1) ((rd_T34 l0 x3_1).f2) _ _ ((rd_T34 l0 x3_1).f3) _ _ ((rd_T34 l0 x3_1).f4) true _ ?side1 ?side2 ?side3 ?side4 A7.out).mono ?_
                      (case side1 => repeat (first | exact (Kd.C_below HR217_3.out HB.out) | (with_reducible refine Kd.C_alloc ?_ _) | (with_reducible refine Kd.C_drewN ?_ _) | (with_reducible refine Kd.C_drew ?_)))
                      (case side2 => exact HC217_3.out)
                      (case side3 => repeat (first | exact (Kd.C_below HR217_4.out HB.out) | (with_reducible refine Kd.C_alloc ?_ _) | (with_reducible refine Kd.C_drewN ?_ _) | (with_reducible refine Kd.C_drew ?_)))
                      (case side4 => exact HC217_4.out)
                      rintro e w14 ⟨rfl, hb⟩
                      refine ⟨_, rfl, ?_⟩
                      have n0_ := Aside0.mk (below_step (by repeat (first | (with_reducible first | exact HB.out | apply below_alloc | apply pw_below_drewN | apply below_drew1) | exact HB.out)) hb)
                      clear HB
                      have HB := n0_
                      clear n0_
                      (try clear hb)
                      (try clear hb2)
                      (try clear hk)
                      (try clear hi)
                      refine hK.out _ _ ⟨((HB.out.cell (World.block_lt_of_cell? w _ hw217_0)).trans hw217_0), ((HB.out.cell (World.block_lt_of_cell? w _ hw217_1)).trans hw217_1), ((HB.out.cell (World.block_lt_of_cell? w _ hw217_2)).trans hw217_2), ((HB.out.cell (World.block_lt_of_cell? w _ hw217_3)).trans hw217_3), ((HB.out.cell (World.block_lt_of_cell? w _ hw217_4)).trans hw217_4), ((HB.out.cell (World.block_lt_of_cell? w _ hw219_0)).trans hw219_0), ((HB.out.cell (World.block_lt_of_cell? w _ hw219_1)).trans hw219_1), ((HB.out.cell (World.block_lt_of_cell? w _ hw219_2)).trans hw219_2), ((HB.out.cell (World.block_lt_of_cell? w _ hw219_3)).trans hw219_3), ((HB.out.cell (World.block_lt_of_cell? w _ hw219_4)).trans hw219_4), ((HB.out.cell (World.block_lt_of_cell? w _ hw220_0)).trans hw220_0), ((HB.out.cell (World.block_lt_of_cell? w _ hw220_1)).trans hw220_1), ((HB.out.cell (World.block_lt_of_cell? w _ hw220_2)).trans hw220_2), ((HB.out.cell (World.block_lt_of_cell? w _ hw220_3)).trans hw220_3), ((HB.out.cell (World.block_lt_of_cell? w _ hw220_4)).trans hw220_4)⟩ (fun hHeld => ?_)
                      clear hK K
                      refine norm_ (a' := ?_) ?_ ?_
                      rotate_left
                      · show Act.put _ (some 18) _ = _
                        simp only [Act.put, List.setIfInBounds_toArray, List.set_cons_zero, List.set_cons_succ, i64_w, i32_w]
                        rfl
                      refine pure_ (i := 5) (N := some 19) (v := ?_) (a' := ?_) #[true, true, true, true, true, true, false, false, false, false, false, false, false, false, false, false, false, false, false, false, false, false, false, false, false, false, false, false, false, false, false, false] rfl rfl (any_of HT_.out (by kernel_rfl)) (fun _ _ _ h => h) (Or.inl ⟨by rfl, ?_⟩) ?_ ?_
                      rotate_left
                      · intro w'
                        go_simp
                        with_reducible rfl
                      rotate_left
                      · simp only [Act.put, List.setIfInBounds_toArray, List.set_cons_zero, List.set_cons_succ, i64_w, i32_w]
                        rfl
                      refine pure_ (i := 6) (N := some 20) (v := ?_) (a' := ?_) #[true, true, true, true, true, true, true, false, false, false, false, false, false, false, false, false, false, false, false, false, false, false, false, false, false, false, false, false, false, false, false, false] rfl rfl (any_of HT_.out (by kernel_rfl)) (fun _ _ _ h => h) (Or.inl ⟨by rfl, ?_⟩) ?_ ?_
                      rotate_left
                      · intro w'
                        go_simp
                        with_reducible rfl
                      rotate_left
                      · simp only [Act.put, List.setIfInBounds_toArray, List.set_cons_zero, List.set_cons_succ, i64_w, i32_w]
                        rfl
                      refine pure_ (i := 7) (N := some 21) (v := ?_) (a' := ?_) #[true, true, true, true, true, true, true, true, false, false, false, false, false, false, false, false, false, false, false, false, false, false, false, false, false, false, false, false, false, false, false, false] rfl rfl (any_of HT_.out (by kernel_rfl)) (fun _ _ _ h => h) (Or.inl ⟨by rfl, ?_⟩) ?_ ?_
                      rotate_left
                      · intro w'
                        go_simp
                        with_reducible rfl
                      rotate_left
                      · simp only [Act.put, List.setIfInBounds_toArray, List.set_cons_zero, List.set_cons_succ, i64_w, i32_w]
                        rfl
                      refine pure_ (i := 8) (N := some 22) (v := ?_) (a' := ?_) #[true, true, true, true, true, true, true, true, true, false, false, false, false, false, false, false, false, false, false, false, false, false, false, false, false, false, false, false, false, false, false, false] rfl rfl (any_of HT_.out (by kernel_rfl)) (fun _ _ _ h => h) (Or.inl ⟨by rfl, ?_⟩) ?_ ?_
                      rotate_left
                      · intro w'
                        go_simp
                        with_reducible rfl
                      rotate_left
                      · simp only [Act.put, List.setIfInBounds_toArray, List.set_cons_zero, List.set_cons_succ, i64_w, i32_w]
                        rfl
                      refine pure_ (i := 9) (N := some 23) (v := ?_) (a' := ?_) #[true, true, true, true, true, true, true, true, true, true, false, false, false, false, false, false, false, false, false, false, false, false, false, false, false, false, false, false, false, false, false, false] rfl rfl (any_of HT_.out (by kernel_rfl)) (fun _ _ _ h => h) (Or.inl ⟨by rfl, ?_⟩) ?_ ?_
                      rotate_left
                      · intro w'
                        go_simp
                        with_reducible rfl
                      rotate_left
                      · simp only [Act.put, List.setIfInBounds_toArray, List.set_cons_zero, List.set_cons_succ, i64_w, i32_w]
                        rfl
                      refine pure_ (i := 10) (N := some 24) (v := ?_) (a' := ?_) #[true, true, true, true, true, true, true, true, true, true, true, false, false, false, false, false, false, false, false, false, false, false, false, false, false, false, false, false, false, false, false, false] rfl rfl (any_of HT_.out (by kernel_rfl)) (fun _ _ _ h => h) (Or.inl ⟨by rfl, ?_⟩) ?_ ?_
                      rotate_left
                      · intro w'
                        go_simp
                        with_reducible rfl
                      rotate_left
                      · simp only [Act.put, List.setIfInBounds_toArray, List.set_cons_zero, List.set_cons_succ, i64_w, i32_w]
                        rfl
                      refine take_ (i := 11) (N := some 25) (v := ?_) (a' := ?_) #[true, true, true, true, true, true, true, true, true, true, true, true, false, false, false, false, false, false, false, false, false, false, false, false, false, false, false, false, false, false, false, false] rfl rfl (take_ofW HT_.out HW_.out (by kernel_rfl)) (fun _ _ _ h => h) (Or.inl ⟨by rfl, ?_⟩) hHeld ?_ ?_
                      rotate_left
                      · rintro w' ⟨s0, s1, s2, s3, s4, s5, s6, s7, s8, s9, s10, s11, s12, s13, s14⟩
                        go_simp
                        with_reducible rfl
                      rotate_left
                      · simp only [Act.put, List.setIfInBounds_toArray, List.set_cons_zero, List.set_cons_succ, i64_w, i32_w]
                        rfl
                      refine pure_ (i := 12) (N := some 26) (v := ?_) (a' := ?_) #[true, true, true, true, true, true, true, true, true, true, true, true, true, false, false, false, false, false, false, false, false, false, false, false, false, false, false, false, false, false, false, false] rfl rfl (any_of HT_.out (by kernel_rfl)) (fun _ _ _ h => h) (Or.inl ⟨by rfl, ?_⟩) ?_ ?_
                      rotate_left
                      · intro w'
                        go_simp
                        with_reducible rfl
                      rotate_left
                      · simp only [Act.put, List.setIfInBounds_toArray, List.set_cons_zero, List.set_cons_succ, i64_w, i32_w]
                        rfl
                      refine pure_ (i := 13) (N := some 27) (v := ?_) (a' := ?_) #[true, true, true, true, true, true, true, true, true, true, true, true, true, true, false, false, false, false, false, false, false, false, false, false, false, false, false, false, false, false, false, false] rfl rfl (any_of HT_.out (by kernel_rfl)) (fun _ _ _ h => h) (Or.inl ⟨by rfl, ?_⟩) ?_ ?_
                      rotate_left
                      · intro w'
                        go_simp
                        with_reducible rfl
                      rotate_left
                      · simp only [Act.put, List.setIfInBounds_toArray, List.set_cons_zero, List.set_cons_succ, i64_w, i32_w]
                        rfl
                      refine pure_ (i := 14) (N := some 28) (v := ?_) (a' := ?_) #[true, true, true, true, true, true, true, true, true, true, true, true, true, true, true, false, false, false, false, false, false, false, false, false, false, false, false, false, false, false, false, false] rfl rfl (any_of HT_.out (by kernel_rfl)) (fun _ _ _ h => h) (Or.inl ⟨by rfl, ?_⟩) ?_ ?_
                      rotate_left
                      · intro w'
                        go_simp
                        with_reducible rfl
                      rotate_left
                      · simp only [Act.put, List.setIfInBounds_toArray, List.set_cons_zero, List.set_cons_succ, i64_w, i32_w]
                        rfl
                      refine pure_ (i := 15) (N := some 29) (v := ?_) (a' := ?_) #[true, true, true, true, true, true, true, true, true, true, true, true, true, true, true, true, false, false, false, false, false, false, false, false, false, false, false, false, false, false, false, false] rfl rfl (any_of HT_.out (by kernel_rfl)) (fun _ _ _ h => h) (Or.inl ⟨by rfl, ?_⟩) ?_ ?_
                      rotate_left
                      · intro w'
                        go_simp
                        with_reducible rfl
                      rotate_left
                      · simp only [Act.put, List.setIfInBounds_toArray, List.set_cons_zero, List.set_cons_succ, i64_w, i32_w]
                        rfl
                      refine pure_ (i := 16) (N := some 30) (v := ?_) (a' := ?_) #[true, true, true, true, true, true, true, true, true, true, true, true, true, true, true, true, true, false, false, false, false, false, false, false, false, false, false, false, false, false, false, false] rfl rfl (any_of HT_.out (by kernel_rfl)) (fun _ _ _ h => h) (Or.inl ⟨by rfl, ?_⟩) ?_ ?_
                      rotate_left
                      · intro w'
                        go_simp
                        with_reducible rfl
                      rotate_left
                      · simp only [Act.put, List.setIfInBounds_toArray, List.set_cons_zero, List.set_cons_succ, i64_w, i32_w]
                        rfl
                      refine pure_ (i := 17) (N := some 31) (v := ?_) (a' := ?_) #[true, true, true, true, true, true, true, true, true, true, true, true, true, true, true, true, true, true, false, false, false, false, false, false, false, false, false, false, false, false, false, false] rfl rfl (any_of HT_.out (by kernel_rfl)) (fun _ _ _ h => h) (Or.inl ⟨by rfl, ?_⟩) ?_ ?_
                      rotate_left
                      · intro w'
                        go_simp
                        with_reducible rfl
                      rotate_left
                      · simp only [Act.put, List.setIfInBounds_toArray, List.set_cons_zero, List.set_cons_succ, i64_w, i32_w]
                        rfl
                      refine pure_ (i := 18) (N := some 32) (v := ?_) (a' := ?_) #[true, true, true, true, true, true, true, true, true, true, true, true, true, true, true, true, true, true, true, false, false, false, false, false, false, false, false, false, false, false, false, false] rfl rfl (any_of HT_.out (by kernel_rfl)) (fun _ _ _ h => h) (Or.inl ⟨by rfl, ?_⟩) ?_ ?_
                      rotate_left
                      · intro w'
                        go_simp
                        with_reducible rfl
                      rotate_left
                      · simp only [Act.put, List.setIfInBounds_toArray, List.set_cons_zero, List.set_cons_succ, i64_w, i32_w]
                        rfl
                      refine take_ (i := 19) (N := some 33) (v := ?_) (a' := ?_) #[true, true, true, true, true, true, true, true, true, true, true, true, true, true, true, true, true, true, true, true, false, false, false, false, false, false, false, false, false, false, false, false] rfl rfl (take_ofW HT_.out HW_.out (by kernel_rfl)) (fun _ _ _ h => h) (Or.inl ⟨by rfl, ?_⟩) hHeld ?_ ?_
                      rotate_left
                      · rintro w' ⟨s0, s1, s2, s3, s4, s5, s6, s7, s8, s9, s10, s11, s12, s13, s14⟩
                        go_simp
                        with_reducible rfl
                      rotate_left
                      · simp only [Act.put, List.setIfInBounds_toArray, List.set_cons_zero, List.set_cons_succ, i64_w, i32_w]
                        rfl
                      refine pure_ (i := 20) (N := some 34) (v := ?_) (a' := ?_) #[true, true, true, true, true, true, true, true, true, true, true, true, true, true, true, true, true, true, true, true, true, false, false, false, false, false, false, false, false, false, false, false] rfl rfl (any_of HT_.out (by kernel_rfl)) (fun _ _ _ h => h) (Or.inl ⟨by rfl, ?_⟩) ?_ ?_
                      rotate_left
                      · intro w'
                        go_simp
                        with_reducible rfl
                      rotate_left
                      · simp only [Act.put, List.setIfInBounds_toArray, List.set_cons_zero, List.set_cons_succ, i64_w, i32_w]
                        rfl
                      refine pure_ (i := 21) (N := some 35) (v := ?_) (a' := ?_) #[true, true, true, true, true, true, true, true, true, true, true, true, true, true, true, true, true, true, true, true, true, true, false, false, false, false, false, false, false, false, false, false] rfl rfl (any_of HT_.out (by kernel_rfl)) (fun _ _ _ h => h) (Or.inl ⟨by rfl, ?_⟩) ?_ ?_
                      rotate_left
                      · intro w'
                        go_simp
                        with_reducible rfl
                      rotate_left
                      · simp only [Act.put, List.setIfInBounds_toArray, List.set_cons_zero, List.set_cons_succ, i64_w, i32_w]
                        rfl
                      refine pure_ (i := 22) (N := some 36) (v := ?_) (a' := ?_) #[true, true, true, true, true, true, true, true, true, true, true, true, true, true, true, true, true, true, true, true, true, true, true, false, false, false, false, false, false, false, false, false] rfl rfl (any_of HT_.out (by kernel_rfl)) (fun _ _ _ h => h) (Or.inl ⟨by rfl, ?_⟩) ?_ ?_
                      rotate_left
                      · intro w'
                        go_simp
                        with_reducible rfl
                      rotate_left
                      · simp only [Act.put, List.setIfInBounds_toArray, List.set_cons_zero, List.set_cons_succ, i64_w, i32_w]
                        rfl
                      refine pure_ (i := 23) (N := some 37) (v := undef) (a' := ?_) #[true, true, true, true, true, true, true, true, true, true, true, true, true, true, true, true, true, true, true, true, true, true, true, true, false, false, false, false, false, false, false, false] rfl rfl (any_of HT_.out (by kernel_rfl)) (fun _ _ _ h => h) (Or.inr ⟨by rfl, rfl⟩) ?_ ?_
                      rotate_left
                      · simp only [Act.put, List.setIfInBounds_toArray, List.set_cons_zero, List.set_cons_succ, i64_w, i32_w]
                        rfl
                      refine pure_ (i := 24) (N := some 38) (v := undef) (a' := ?_) #[true, true, true, true, true, true, true, true, true, true, true, true, true, true, true, true, true, true, true, true, true, true, true, true, true, false, false, false, false, false, false, false] rfl rfl (any_of HT_.out (by kernel_rfl)) (fun _ _ _ h => h) (Or.inr ⟨by rfl, rfl⟩) ?_ ?_
                      rotate_left
                      · simp only [Act.put, List.setIfInBounds_toArray, List.set_cons_zero, List.set_cons_succ, i64_w, i32_w]
                        rfl
                      refine pure_ (i := 25) (N := some 39) (v := undef) (a' := ?_) #[true, true, true, true, true, true, true, true, true, true, true, true, true, true, true, true, true, true, true, true, true, true, true, true, true, true, false, false, false, false, false, false] rfl rfl (any_of HT_.out (by kernel_rfl)) (fun _ _ _ h => h) (Or.inr ⟨by rfl, rfl⟩) ?_ ?_
                      rotate_left
                      · simp only [Act.put, List.setIfInBounds_toArray, List.set_cons_zero, List.set_cons_succ, i64_w, i32_w]
                        rfl
                      refine pure_ (i := 26) (N := some 40) (v := undef) (a' := ?_) #[true, true, true, true, true, true, true, true, true, true, true, true, true, true, true, true, true, true, true, true, true, true, true, true, true, true, true, false, false, false, false, false] rfl rfl (any_of HT_.out (by kernel_rfl)) (fun _ _ _ h => h) (Or.inr ⟨by rfl, rfl⟩) ?_ ?_
                      rotate_left
                      · simp only [Act.put, List.setIfInBounds_toArray, List.set_cons_zero, List.set_cons_succ, i64_w, i32_w]
                        rfl
                      refine pure_ (i := 27) (N := some 41) (v := undef) (a' := ?_) #[true, true, true, true, true, true, true, true, true, true, true, true, true, true, true, true, true, true, true, true, true, true, true, true, true, true, true, true, false, false, false, false] rfl rfl (any_of HT_.out (by kernel_rfl)) (fun _ _ _ h => h) (Or.inr ⟨by rfl, rfl⟩) ?_ ?_
                      rotate_left
                      · simp only [Act.put, List.setIfInBounds_toArray, List.set_cons_zero, List.set_cons_succ, i64_w, i32_w]
                        rfl
                      refine pure_ (i := 28) (N := some 42) (v := undef) (a' := ?_) #[true, true, true, true, true, true, true, true, true, true, true, true, true, true, true, true, true, true, true, true, true, true, true, true, true, true, true, true, true, false, false, false] rfl rfl (any_of HT_.out (by kernel_rfl)) (fun _ _ _ h => h) (Or.inr ⟨by rfl, rfl⟩) ?_ ?_
                      rotate_left
                      · simp only [Act.put, List.setIfInBounds_toArray, List.set_cons_zero, List.set_cons_succ, i64_w, i32_w]
                        rfl
                      refine pure_ (i := 29) (N := some 43) (v := undef) (a' := ?_) #[true, true, true, true, true, true, true, true, true, true, true, true, true, true, true, true, true, true, true, true, true, true, true, true, true, true, true, true, true, true, false, false] rfl rfl (any_of HT_.out (by kernel_rfl)) (fun _ _ _ h => h) (Or.inr ⟨by rfl, rfl⟩) ?_ ?_
                      rotate_left
                      · simp only [Act.put, List.setIfInBounds_toArray, List.set_cons_zero, List.set_cons_succ, i64_w, i32_w]
                        rfl
                      refine pure_ (i := 30) (N := some 44) (v := undef) (a' := ?_) #[true, true, true, true, true, true, true, true, true, true, true, true, true, true, true, true, true, true, true, true, true, true, true, true, true, true, true, true, true, true, true, false] rfl rfl (any_of HT_.out (by kernel_rfl)) (fun _ _ _ h => h) (Or.inr ⟨by rfl, rfl⟩) ?_ ?_
                      rotate_left
                      · simp only [Act.put, List.setIfInBounds_toArray, List.set_cons_zero, List.set_cons_succ, i64_w, i32_w]
                        rfl
                      refine pure_ (i := 31) (N := some 45) (v := ?_) (a' := ?_) #[true, true, true, true, true, true, true, true, true, true, true, true, true, true, true, true, true, true, true, true, true, true, true, true, true, true, true, true, true, true, true, true] rfl rfl (any_of HT_.out (by kernel_rfl)) (fun _ _ _ h => h) (Or.inl ⟨by rfl, ?_⟩) ?_ ?_
                      rotate_left
                      · intro w'
                        go_simp
                        with_reducible rfl
                      rotate_left
                      · simp only [Act.put, List.setIfInBounds_toArray, List.set_cons_zero, List.set_cons_succ, i64_w, i32_w]
                        rfl
                      refine done_ (done_of HT_.out (by kernel_rfl)) ?_
                      try go_wp2
                      go_ret
                      exact ⟨by first | rfl | (simp [errW_none, errW_some] <;> rfl) | (simp [*, errW_none, errW_some] <;> rfl), by repeat (first | (with_reducible first | exact HB.out | apply below_alloc | apply pw_below_drewN | apply below_drew1) | exact HB.out)⟩
                    · rw [if_neg c12] at H
                      have c12b0 : (((rd_T34 l0 x3_1).f1).toList == ([95] : List UInt8)) = false := beq_eq_false_iff_ne.mpr c12
                      have c12b1 : (((rd_T34 l0 x3_1).f1).toList != ([95] : List UInt8)) = true := bne_iff_ne.mpr c12
                      have c15b0 := eq_true (of_decide_eq_true (by first | (with_reducible assumption) | assumption) : 0 ≤ x3_1)
                      by_cases c16 : x3_1 ≤ (l0.length : Int)
                      · rw [if_pos c16] at H
                        have c16b0 := eq_true c16
                        have c16b1 : decide (x3_1 ≤ (l0.length : Int)) = true := decide_eq_true c16
                        clear c16
                        obtain ⟨y221, hy221⟩ : ∃ y_ : List (S34), y_ = (l0.take (x3_1 : Int).toNat) := ⟨_, rfl⟩
                        replace H : ((spec_l4In.f kj1 y221 ((rd_T34 l0 x3_1).f0) ((rd_T34 l0 x3_1).f1) ((rd_T34 l0 x3_1).f2) ((rd_T34 l0 x3_1).f3) ((rd_T34 l0 x3_1).f4)).bind fun t226 => (if t226 = true then (some false) else (spec_l4Literals.l0 kj1 l0 (wrap64 (x3_1 + 1))))) = some r := by first | (rw [hy221]; with_reducible exact H) | (have H2_ := (Option.bind_some _ _).symm.trans H; rw [hy221]; with_reducible exact H2_) | (have H2_ := (Option.bind_some _ _).symm.trans H; with_reducible exact H2_) | with_reducible exact H | (rw [hy221]; exact H) | exact H
                        have Ny221 := Aside0.mk hy221
                        clear hy221
                        replace H := Option.bind_eq_some_iff.mp H
                        obtain ⟨t226, A170, H⟩ := H
                        replace H : (if t226 = true then (some false) else (spec_l4Literals.l0 kj1 l0 (wrap64 (x3_1 + 1)))) = some r := H
                        have A17 := Aside0.mk A170
                        clear A170
                        by_cases c18 : t226 = true
                        · subst c18
                          have H1 : (some false) = some r := by rw [if_pos rfl] at H; exact H
                          clear H
                          have H := H1
                          clear H1
                          obtain rfl := Option.some.inj H
                          try go_wp2
                          have n0_ := Aside0.mk (below_drew1 HB.out)
                          clear HB
                          have HB := n0_
                          clear n0_
                          have p217 : 0 ≤ (x3_1 : Int) := of_decide_eq_true (by first | (with_reducible assumption) | assumption)
                          have q217 : x3_1 < (l0.length : Int) := of_decide_eq_true (by first | (with_reducible assumption) | assumption)
                          obtain ⟨ad217, A217_3, c217_3, A217_4, c217_4, e217, hx217_0, hx217_1, hx217_2, hx217_3, hx217_4, hl217_3, hi217_3, hl217_4, hi217_4⟩ := at_T34 HR0.out x3_1 p217 q217
                          have hw217_4 := hx217_4
                          have hw217_3 := hx217_3
                          have hw217_2 := hx217_2
                          have hw217_1 := hx217_1
                          have hw217_0 := hx217_0
                          cases e217
                          replace hx217_0 := (HB.out.cell (World.block_lt_of_cell? w _ hx217_0)).trans hx217_0
                          replace hx217_1 := (HB.out.cell (World.block_lt_of_cell? w _ hx217_1)).trans hx217_1
                          replace hx217_2 := (HB.out.cell (World.block_lt_of_cell? w _ hx217_2)).trans hx217_2
                          replace hx217_3 := (HB.out.cell (World.block_lt_of_cell? w _ hx217_3)).trans hx217_3
                          replace hx217_4 := (HB.out.cell (World.block_lt_of_cell? w _ hx217_4)).trans hx217_4
                          have HR217_3 := Aside0.mk hi217_3
                          have HC217_3 := Aside0.mk hl217_3
                          clear hi217_3 hl217_3
                          have HR217_4 := Aside0.mk hi217_4
                          have HC217_4 := Aside0.mk hl217_4
                          clear hi217_4 hl217_4
                          replace p217 := eq_true p217
                          replace q217 := eq_true q217
                          have p219 : 0 ≤ (x3_1 : Int) := of_decide_eq_true (by first | (with_reducible assumption) | assumption)
                          have q219 : x3_1 < (l0.length : Int) := of_decide_eq_true (by first | (with_reducible assumption) | assumption)
                          obtain ⟨ad219, A219_3, c219_3, A219_4, c219_4, e219, hx219_0, hx219_1, hx219_2, hx219_3, hx219_4, hl219_3, hi219_3, hl219_4, hi219_4⟩ := at_T34 HR0.out x3_1 p219 q219
                          have hw219_4 := hx219_4
                          have hw219_3 := hx219_3
                          have hw219_2 := hx219_2
                          have hw219_1 := hx219_1
                          have hw219_0 := hx219_0
                          obtain rfl : ad217 = ad219 := (by injection e219)
                          replace hx219_0 := (HB.out.cell (World.block_lt_of_cell? w _ hx219_0)).trans hx219_0
                          replace hx219_1 := (HB.out.cell (World.block_lt_of_cell? w _ hx219_1)).trans hx219_1
                          replace hx219_2 := (HB.out.cell (World.block_lt_of_cell? w _ hx219_2)).trans hx219_2
                          replace hx219_3 := (HB.out.cell (World.block_lt_of_cell? w _ hx219_3)).trans hx219_3
                          replace hx219_4 := (HB.out.cell (World.block_lt_of_cell? w _ hx219_4)).trans hx219_4
                          have HR219_3 := Aside0.mk hi219_3
                          have HC219_3 := Aside0.mk hl219_3
                          clear hi219_3 hl219_3
                          have HR219_4 := Aside0.mk hi219_4
                          have HC219_4 := Aside0.mk hl219_4
                          clear hi219_4 hl219_4
                          replace p219 := eq_true p219
                          replace q219 := eq_true q219
                          have p220 : 0 ≤ (x3_1 : Int) := of_decide_eq_true (by first | (with_reducible assumption) | assumption)
                          have q220 : x3_1 < (l0.length : Int) := of_decide_eq_true (by first | (with_reducible assumption) | assumption)
                          obtain ⟨ad220, A220_3, c220_3, A220_4, c220_4, e220, hx220_0, hx220_1, hx220_2, hx220_3, hx220_4, hl220_3, hi220_3, hl220_4, hi220_4⟩ := at_T34 HR0.out x3_1 p220 q220
                          have hw220_4 := hx220_4
                          have hw220_3 := hx220_3
                          have hw220_2 := hx220_2
                          have hw220_1 := hx220_1
                          have hw220_0 := hx220_0
                          obtain rfl : ad217 = ad220 := (by injection e220)
                          replace hx220_0 := (HB.out.cell (World.block_lt_of_cell? w _ hx220_0)).trans hx220_0
                          replace hx220_1 := (HB.out.cell (World.block_lt_of_cell? w _ hx220_1)).trans hx220_1
                          replace hx220_2 := (HB.out.cell (World.block_lt_of_cell? w _ hx220_2)).trans hx220_2
                          replace hx220_3 := (HB.out.cell (World.block_lt_of_cell? w _ hx220_3)).trans hx220_3
                          replace hx220_4 := (HB.out.cell (World.block_lt_of_cell? w _ hx220_4)).trans hx220_4
                          have HR220_3 := Aside0.mk hi220_3
                          have HC220_3 := Aside0.mk hl220_3
                          clear hi220_3 hl220_3
                          have HR220_4 := Aside0.mk hi220_4
                          have HC220_4 := Aside0.mk hl220_4
                          clear hi220_4 hl220_4
                          replace p220 := eq_true p220
                          replace q220 := eq_true q220
                          have ea_ := Option.some.inj (hx219_3.symm.trans hx220_3)
                          injection ea_ with ea_ en_ ec_
                          subst ea_
                          subst ec_
                          clear en_
                          have ea_ := Option.some.inj (hx219_4.symm.trans hx220_4)
                          injection ea_ with ea_ en_ ec_
                          subst ea_
                          subst ec_
                          clear en_
                          have p225 : 0 ≤ (x3_1 : Int) := of_decide_eq_true (by first | (with_reducible assumption) | assumption)
                          have q225 : x3_1 < (l0.length : Int) := of_decide_eq_true (by first | (with_reducible assumption) | assumption)
                          obtain ⟨ad225, A225_3, c225_3, A225_4, c225_4, e225, hx225_0, hx225_1, hx225_2, hx225_3, hx225_4, hl225_3, hi225_3, hl225_4, hi225_4⟩ := at_T34 HR0.out x3_1 p225 q225
                          have hw225_4 := hx225_4
                          have hw225_3 := hx225_3
                          have hw225_2 := hx225_2
                          have hw225_1 := hx225_1
                          have hw225_0 := hx225_0
                          obtain rfl : ad217 = ad225 := (by injection e225)
                          replace hx225_0 := (HB.out.cell (World.block_lt_of_cell? w _ hx225_0)).trans hx225_0
                          replace hx225_1 := (HB.out.cell (World.block_lt_of_cell? w _ hx225_1)).trans hx225_1
                          replace hx225_2 := (HB.out.cell (World.block_lt_of_cell? w _ hx225_2)).trans hx225_2
                          replace hx225_3 := (HB.out.cell (World.block_lt_of_cell? w _ hx225_3)).trans hx225_3
                          replace hx225_4 := (HB.out.cell (World.block_lt_of_cell? w _ hx225_4)).trans hx225_4
                          have HR225_3 := Aside0.mk hi225_3
                          have HC225_3 := Aside0.mk hl225_3
                          clear hi225_3 hl225_3
                          have HR225_4 := Aside0.mk hi225_4
                          have HC225_4 := Aside0.mk hl225_4
                          clear hi225_4 hl225_4
                          replace p225 := eq_true p225
                          replace q225 := eq_true q225
                          have ea_ := Option.some.inj (hx219_3.symm.trans hx225_3)
                          injection ea_ with ea_ en_ ec_
                          subst ea_
                          subst ec_
                          clear en_
                          have ea_ := Option.some.inj (hx219_4.symm.trans hx225_4)
                          injection ea_ with ea_ en_ ec_
                          subst ea_
                          subst ec_
                          clear en_
                          refine start_ (n := 32) (S := fun w' => w'.cell? (ad217.add ((x3_1).toNat * 5)) = some (.int .i64 ((rd_T34 l0 x3_1).f0)) ∧ w'.cell? ⟨(ad217.add ((x3_1).toNat * 5)).block, (ad217.add ((x3_1).toNat * 5)).off + 1, none⟩ = some (.string ((rd_T34 l0 x3_1).f1)) ∧ w'.cell? ⟨(ad217.add ((x3_1).toNat * 5)).block, (ad217.add ((x3_1).toNat * 5)).off + 2, none⟩ = some (.int .i64 ((rd_T34 l0 x3_1).f2)) ∧ w'.cell? ⟨(ad217.add ((x3_1).toNat * 5)).block, (ad217.add ((x3_1).toNat * 5)).off + 3, none⟩ = some (.slice A217_3 ((rd_T34 l0 x3_1).f3).length c217_3) ∧ w'.cell? ⟨(ad217.add ((x3_1).toNat * 5)).block, (ad217.add ((x3_1).toNat * 5)).off + 4, none⟩ = some (.slice A217_4 ((rd_T34 l0 x3_1).f4).length c217_4) ∧ w'.cell? (ad217.add ((x3_1).toNat * 5)) = some (.int .i64 ((rd_T34 l0 x3_1).f0)) ∧ w'.cell? ⟨(ad217.add ((x3_1).toNat * 5)).block, (ad217.add ((x3_1).toNat * 5)).off + 1, none⟩ = some (.string ((rd_T34 l0 x3_1).f1)) ∧ w'.cell? ⟨(ad217.add ((x3_1).toNat * 5)).block, (ad217.add ((x3_1).toNat * 5)).off + 2, none⟩ = some (.int .i64 ((rd_T34 l0 x3_1).f2)) ∧ w'.cell? ⟨(ad217.add ((x3_1).toNat * 5)).block, (ad217.add ((x3_1).toNat * 5)).off + 3, none⟩ = some (.slice A219_3 ((rd_T34 l0 x3_1).f3).length c219_3) ∧ w'.cell? ⟨(ad217.add ((x3_1).toNat * 5)).block, (ad217.add ((x3_1).toNat * 5)).off + 4, none⟩ = some (.slice A219_4 ((rd_T34 l0 x3_1).f4).length c219_4) ∧ w'.cell? (ad217.add ((x3_1).toNat * 5)) = some (.int .i64 ((rd_T34 l0 x3_1).f0)) ∧ w'.cell? ⟨(ad217.add ((x3_1).toNat * 5)).block, (ad217.add ((x3_1).toNat * 5)).off + 1, none⟩ = some (.string ((rd_T34 l0 x3_1).f1)) ∧ w'.cell? ⟨(ad217.add ((x3_1).toNat * 5)).block, (ad217.add ((x3_1).toNat * 5)).off + 2, none⟩ = some (.int .i64 ((rd_T34 l0 x3_1).f2)) ∧ w'.cell? ⟨(ad217.add ((x3_1).toNat * 5)).block, (ad217.add ((x3_1).toNat * 5)).off + 3, none⟩ = some (.slice A219_3 ((rd_T34 l0 x3_1).f3).length c219_3) ∧ w'.cell? ⟨(ad217.add ((x3_1).toNat * 5)).block, (ad217.add ((x3_1).toNat * 5)).off + 4, none⟩ = some (.slice A219_4 ((rd_T34 l0 x3_1).f4).length c219_4) ∧ w'.cell? (ad217.add ((x3_1).toNat * 5)) = some (.int .i64 ((rd_T34 l0 x3_1).f0)) ∧ w'.cell? ⟨(ad217.add ((x3_1).toNat * 5)).block, (ad217.add ((x3_1).toNat * 5)).off + 1, none⟩ = some (.string ((rd_T34 l0 x3_1).f1)) ∧ w'.cell? ⟨(ad217.add ((x3_1).toNat * 5)).block, (ad217.add ((x3_1).toNat * 5)).off + 2, none⟩ = some (.int .i64 ((rd_T34 l0 x3_1).f2)) ∧ w'.cell? ⟨(ad217.add ((x3_1).toNat * 5)).block, (ad217.add ((x3_1).toNat * 5)).off + 3, none⟩ = some (.slice A219_3 ((rd_T34 l0 x3_1).f3).length c219_3) ∧ w'.cell? ⟨(ad217.add ((x3_1).toNat * 5)).block, (ad217.add ((x3_1).toNat * 5)).off + 4, none⟩ = some (.slice A219_4 ((rd_T34 l0 x3_1).f4).length c219_4)) (ds := []) #[false, false, false, false, false, false, false, false, false, false, false, false, false, false, false, false, false, false, false, false, false, false, false, false, false, false, false, false, false, false, false, false] (by kernel_rfl) rfl rfl ⟨((HB.out.cell (World.block_lt_of_cell? w _ hw217_0)).trans hw217_0), ((HB.out.cell (World.block_lt_of_cell? w _ hw217_1)).trans hw217_1), ((HB.out.cell (World.block_lt_of_cell? w _ hw217_2)).trans hw217_2), ((HB.out.cell (World.block_lt_of_cell? w _ hw217_3)).trans hw217_3), ((HB.out.cell (World.block_lt_of_cell? w _ hw217_4)).trans hw217_4), ((HB.out.cell (World.block_lt_of_cell? w _ hw219_0)).trans hw219_0), ((HB.out.cell (World.block_lt_of_cell? w _ hw219_1)).trans hw219_1), ((HB.out.cell (World.block_lt_of_cell? w _ hw219_2)).trans hw219_2), ((HB.out.cell (World.block_lt_of_cell? w _ hw219_3)).trans hw219_3), ((HB.out.cell (World.block_lt_of_cell? w _ hw219_4)).trans hw219_4), ((HB.out.cell (World.block_lt_of_cell? w _ hw220_0)).trans hw220_0), ((HB.out.cell (World.block_lt_of_cell? w _ hw220_1)).trans hw220_1), ((HB.out.cell (World.block_lt_of_cell? w _ hw220_2)).trans hw220_2), ((HB.out.cell (World.block_lt_of_cell? w _ hw220_3)).trans hw220_3), ((HB.out.cell (World.block_lt_of_cell? w _ hw220_4)).trans hw220_4), ((HB.out.cell (World.block_lt_of_cell? w _ hw225_0)).trans hw225_0), ((HB.out.cell (World.block_lt_of_cell? w _ hw225_1)).trans hw225_1), ((HB.out.cell (World.block_lt_of_cell? w _ hw225_2)).trans hw225_2), ((HB.out.cell (World.block_lt_of_cell? w _ hw225_3)).trans hw225_3), ((HB.out.cell (World.block_lt_of_cell? w _ hw225_4)).trans hw225_4)⟩ (fun hHeld => ?_); refine with_tabW spec_l4Literals.tab4 spec_l4Literals.bits4 (fun HT_ HW_ => ?_)
                          generalize wc.drew = w19 at HB HR217_3 HR217_4 HR219_3 HR219_4 HR220_3 HR220_4 HR225_3 HR225_4 hx217_0 hx217_1 hx217_2 hx217_3 hx217_4 hx219_0 hx219_1 hx219_2 hx219_3 hx219_4 hx220_0 hx220_1 hx220_2 hx220_3 hx220_4 hx225_0 hx225_1 hx225_2 hx225_3 hx225_4 hHeld ⊢
                          refine pure_ (i := 0) (N := some 14) (v := ?_) (a' := ?_) #[true, false, false, false, false, false, false, false, false, false, false, false, false, false, false, false, false, false, false, false, false, false, false, false, false, false, false, false, false, false, false, false] rfl rfl (any_of HT_.out (by kernel_rfl)) (fun _ _ _ h => h) (Or.inl ⟨by rfl, ?_⟩) ?_ ?_
                          rotate_left
                          · intro w'
                            go_simp
                            with_reducible rfl
                          rotate_left
                          · simp only [Act.put, List.setIfInBounds_toArray, List.set_cons_zero, List.set_cons_succ, i64_w, i32_w]
                            rfl
                          refine pure_ (i := 1) (N := some 15) (v := ?_) (a' := ?_) #[true, true, false, false, false, false, false, false, false, false, false, false, false, false, false, false, false, false, false, false, false, false, false, false, false, false, false, false, false, false, false, false] rfl rfl (any_of HT_.out (by kernel_rfl)) (fun _ _ _ h => h) (Or.inl ⟨by rfl, ?_⟩) ?_ ?_
                          rotate_left
                          · intro w'
                            go_simp
                            with_reducible rfl
                          rotate_left
                          · simp only [Act.put, List.setIfInBounds_toArray, List.set_cons_zero, List.set_cons_succ, i64_w, i32_w]
                            rfl
                          refine pure_ (i := 2) (N := some 16) (v := ?_) (a' := ?_) #[true, true, true, false, false, false, false, false, false, false, false, false, false, false, false, false, false, false, false, false, false, false, false, false, false, false, false, false, false, false, false, false] rfl rfl (any_of HT_.out (by kernel_rfl)) (fun _ _ _ h => h) (Or.inl ⟨by rfl, ?_⟩) ?_ ?_
                          rotate_left
                          · intro w'
                            go_simp
                            with_reducible rfl
                          rotate_left
                          · simp only [Act.put, List.setIfInBounds_toArray, List.set_cons_zero, List.set_cons_succ, i64_w, i32_w]
                            rfl
                          refine take_ (i := 3) (N := some 17) (v := ?_) (a' := ?_) #[true, true, true, true, false, false, false, false, false, false, false, false, false, false, false, false, false, false, false, false, false, false, false, false, false, false, false, false, false, false, false, false] rfl rfl (take_ofW HT_.out HW_.out (by kernel_rfl)) (fun _ _ _ h => h) (Or.inl ⟨by rfl, ?_⟩) hHeld ?_ ?_
                          rotate_left
                          · rintro w' ⟨s0, s1, s2, s3, s4, s5, s6, s7, s8, s9, s10, s11, s12, s13, s14, s15, s16, s17, s18, s19⟩
                            go_simp
                            with_reducible rfl
                          rotate_left
                          · simp only [Act.put, List.setIfInBounds_toArray, List.set_cons_zero, List.set_cons_succ, i64_w, i32_w]
                            rfl
                          refine one_ (i := 4) (N := some 18) #[true, true, true, true, true, false, false, false, false, false, false, false, false, false, false, false, false, false, false, false, false, false, false, false, false, false, false, false, false, false, false, false] rfl rfl (one_of HT_.out (by kernel_rfl)) (by decide) (fun K hK => ?_)
                          refine goes_ Try.func46 (by kernel_rfl) rfl #[.agg #[.int .i64 ((rd_T34 l0 x3_1).f0), .string ((rd_T34 l0 x3_1).f1), .int .i64 ((rd_T34 l0 x3_1).f2), .slice A217_3 ((rd_T34 l0 x3_1).f3).length c217_3, .slice A217_4 ((rd_T34 l0 x3_1).f4).length c217_4]] (by rfl) rfl rfl (by (try simp only [List.map_toArray, List.map_cons, List.map_nil]); first | done | rfl | (simp only [List.length_drop, List.length_take]; rfl)) ?_
                          with_reducible refine (spec_l3Is.calls ((rd_T34 l0 x3_1).f0) ((rd_T34 l0 x3_1).f1) ((rd_T34 l0 x3_1).f2) _ _ ((rd_T34 l0 x3_1).f3) _ _ ((rd_T34 l0 x3_1).f4) true _ ?side1 ?side2 ?side3 ?side4 A7.out).mono ?_
                          (case side1 => repeat (first | exact (Kd.C_below HR217_3.out HB.out) | (with_reducible refine Kd.C_alloc ?_ _) | (with_reducible refine Kd.C_drewN ?_ _) | (with_reducible refine Kd.C_drew ?_)))
                          (case side2 => exact HC217_3.out)
                          (case side3 => repeat (first | exact (Kd.C_below HR217_4.out HB.out) | (with_reducible refine Kd.C_alloc ?_ _) | (with_reducible refine Kd.C_drewN ?_ _) | (with_reducible refine Kd.C_drew ?_)))
                          (case side4 => exact HC217_4.out)
                          rintro e w20 ⟨rfl, hb⟩
                          refine ⟨_, rfl, ?_⟩
                          have n0_ := Aside0.mk (below_step (by repeat (first | (with_reducible first | exact HB.out | apply below_alloc | apply pw_below_drewN | apply below_drew1) | exact HB.out)) hb)
                          clear HB
                          have HB := n0_
                          clear n0_
                          (try clear hb)
                          (try clear hb2)
                          (try clear hk)
                          (try clear hi)
                          have q21 : (x3_1 : Int) ≤ ((l0.length : Int) : Int) := of_decide_eq_true (by first | (with_reducible assumption) | assumption)
                          obtain ⟨i021, hi021, _, hsz21, _⟩ := info_parts info34
                          have hroom21 : l0.length ≤ c0 := HC0.out
                          have hC21 : Kd.C k34 _ (some ad217) l0.length l0 := HR0.out
                          have hcut21 := cut_to (P := Try.prog) 32 34 .i64 Try.underlying32 hi021 (some ad217) l0.length c0 x3_1 (of_decide_eq_true (by first | (with_reducible assumption) | assumption)) q21 hroom21
                          have hr21 := Kd.C_take (m := (x3_1 : Int).toNat) hC21 (by omega)
                          have hy21 : y221.length = (x3_1 : Int).toNat := (by rw [Ny221.out, List.length_take]; omega)
                          rw [← Ny221.out] at hr21
                          rw [← hy21] at hcut21
                          have HR224 := Aside0.mk hr21
                          have HC224 := Aside0.mk (show y221.length ≤ c0 from by omega)
                          clear hr21 hC21 hroom21 hi021 hsz21
                          have KY21 := Aside0.mk hy21
                          clear hy21
                          replace q21 := eq_true q21
                          refine hK.out _ _ ⟨((HB.out.cell (World.block_lt_of_cell? w _ hw217_0)).trans hw217_0), ((HB.out.cell (World.block_lt_of_cell? w _ hw217_1)).trans hw217_1), ((HB.out.cell (World.block_lt_of_cell? w _ hw217_2)).trans hw217_2), ((HB.out.cell (World.block_lt_of_cell? w _ hw217_3)).trans hw217_3), ((HB.out.cell (World.block_lt_of_cell? w _ hw217_4)).trans hw217_4), ((HB.out.cell (World.block_lt_of_cell? w _ hw219_0)).trans hw219_0), ((HB.out.cell (World.block_lt_of_cell? w _ hw219_1)).trans hw219_1), ((HB.out.cell (World.block_lt_of_cell? w _ hw219_2)).trans hw219_2), ((HB.out.cell (World.block_lt_of_cell? w _ hw219_3)).trans hw219_3), ((HB.out.cell (World.block_lt_of_cell? w _ hw219_4)).trans hw219_4), ((HB.out.cell (World.block_lt_of_cell? w _ hw220_0)).trans hw220_0), ((HB.out.cell (World.block_lt_of_cell? w _ hw220_1)).trans hw220_1), ((HB.out.cell (World.block_lt_of_cell? w _ hw220_2)).trans hw220_2), ((HB.out.cell (World.block_lt_of_cell? w _ hw220_3)).trans hw220_3), ((HB.out.cell (World.block_lt_of_cell? w _ hw220_4)).trans hw220_4), ((HB.out.cell (World.block_lt_of_cell? w _ hw225_0)).trans hw225_0), ((HB.out.cell (World.block_lt_of_cell? w _ hw225_1)).trans hw225_1), ((HB.out.cell (World.block_lt_of_cell? w _ hw225_2)).trans hw225_2), ((HB.out.cell (World.block_lt_of_cell? w _ hw225_3)).trans hw225_3), ((HB.out.cell (World.block_lt_of_cell? w _ hw225_4)).trans hw225_4)⟩ (fun hHeld => ?_)
                          clear hK K
                          refine norm_ (a' := ?_) ?_ ?_
                          rotate_left
                          · show Act.put _ (some 18) _ = _
                            simp only [Act.put, List.setIfInBounds_toArray, List.set_cons_zero, List.set_cons_succ, i64_w, i32_w]
                            rfl
                          refine pure_ (i := 5) (N := some 19) (v := ?_) (a' := ?_) #[true, true, true, true, true, true, false, false, false, false, false, false, false, false, false, false, false, false, false, false, false, false, false, false, false, false, false, false, false, false, false, false] rfl rfl (any_of HT_.out (by kernel_rfl)) (fun _ _ _ h => h) (Or.inl ⟨by rfl, ?_⟩) ?_ ?_
                          rotate_left
                          · intro w'
                            go_simp
                            with_reducible rfl
                          rotate_left
                          · simp only [Act.put, List.setIfInBounds_toArray, List.set_cons_zero, List.set_cons_succ, i64_w, i32_w]
                            rfl
                          refine pure_ (i := 6) (N := some 20) (v := ?_) (a' := ?_) #[true, true, true, true, true, true, true, false, false, false, false, false, false, false, false, false, false, false, false, false, false, false, false, false, false, false, false, false, false, false, false, false] rfl rfl (any_of HT_.out (by kernel_rfl)) (fun _ _ _ h => h) (Or.inl ⟨by rfl, ?_⟩) ?_ ?_
                          rotate_left
                          · intro w'
                            go_simp
                            with_reducible rfl
                          rotate_left
                          · simp only [Act.put, List.setIfInBounds_toArray, List.set_cons_zero, List.set_cons_succ, i64_w, i32_w]
                            rfl
                          refine pure_ (i := 7) (N := some 21) (v := ?_) (a' := ?_) #[true, true, true, true, true, true, true, true, false, false, false, false, false, false, false, false, false, false, false, false, false, false, false, false, false, false, false, false, false, false, false, false] rfl rfl (any_of HT_.out (by kernel_rfl)) (fun _ _ _ h => h) (Or.inl ⟨by rfl, ?_⟩) ?_ ?_
                          rotate_left
                          · intro w'
                            go_simp
                            with_reducible rfl
                          rotate_left
                          · simp only [Act.put, List.setIfInBounds_toArray, List.set_cons_zero, List.set_cons_succ, i64_w, i32_w]
                            rfl
                          refine pure_ (i := 8) (N := some 22) (v := ?_) (a' := ?_) #[true, true, true, true, true, true, true, true, true, false, false, false, false, false, false, false, false, false, false, false, false, false, false, false, false, false, false, false, false, false, false, false] rfl rfl (any_of HT_.out (by kernel_rfl)) (fun _ _ _ h => h) (Or.inl ⟨by rfl, ?_⟩) ?_ ?_
                          rotate_left
                          · intro w'
                            go_simp
                            with_reducible rfl
                          rotate_left
                          · simp only [Act.put, List.setIfInBounds_toArray, List.set_cons_zero, List.set_cons_succ, i64_w, i32_w]
                            rfl
                          refine pure_ (i := 9) (N := some 23) (v := ?_) (a' := ?_) #[true, true, true, true, true, true, true, true, true, true, false, false, false, false, false, false, false, false, false, false, false, false, false, false, false, false, false, false, false, false, false, false] rfl rfl (any_of HT_.out (by kernel_rfl)) (fun _ _ _ h => h) (Or.inl ⟨by rfl, ?_⟩) ?_ ?_
                          rotate_left
                          · intro w'
                            go_simp
                            with_reducible rfl
                          rotate_left
                          · simp only [Act.put, List.setIfInBounds_toArray, List.set_cons_zero, List.set_cons_succ, i64_w, i32_w]
                            rfl
                          refine pure_ (i := 10) (N := some 24) (v := ?_) (a' := ?_) #[true, true, true, true, true, true, true, true, true, true, true, false, false, false, false, false, false, false, false, false, false, false, false, false, false, false, false, false, false, false, false, false] rfl rfl (any_of HT_.out (by kernel_rfl)) (fun _ _ _ h => h) (Or.inl ⟨by rfl, ?_⟩) ?_ ?_
                          rotate_left
                          · intro w'
                            go_simp
                            with_reducible rfl
                          rotate_left
                          · simp only [Act.put, List.setIfInBounds_toArray, List.set_cons_zero, List.set_cons_succ, i64_w, i32_w]
                            rfl
                          refine take_ (i := 11) (N := some 25) (v := ?_) (a' := ?_) #[true, true, true, true, true, true, true, true, true, true, true, true, false, false, false, false, false, false, false, false, false, false, false, false, false, false, false, false, false, false, false, false] rfl rfl (take_ofW HT_.out HW_.out (by kernel_rfl)) (fun _ _ _ h => h) (Or.inl ⟨by rfl, ?_⟩) hHeld ?_ ?_
                          rotate_left
                          · rintro w' ⟨s0, s1, s2, s3, s4, s5, s6, s7, s8, s9, s10, s11, s12, s13, s14, s15, s16, s17, s18, s19⟩
                            go_simp
                            with_reducible rfl
                          rotate_left
                          · simp only [Act.put, List.setIfInBounds_toArray, List.set_cons_zero, List.set_cons_succ, i64_w, i32_w]
                            rfl
                          refine pure_ (i := 12) (N := some 26) (v := ?_) (a' := ?_) #[true, true, true, true, true, true, true, true, true, true, true, true, true, false, false, false, false, false, false, false, false, false, false, false, false, false, false, false, false, false, false, false] rfl rfl (any_of HT_.out (by kernel_rfl)) (fun _ _ _ h => h) (Or.inl ⟨by rfl, ?_⟩) ?_ ?_
                          rotate_left
                          · intro w'
                            go_simp
                            with_reducible rfl
                          rotate_left
                          · simp only [Act.put, List.setIfInBounds_toArray, List.set_cons_zero, List.set_cons_succ, i64_w, i32_w]
                            rfl
                          refine pure_ (i := 13) (N := some 27) (v := ?_) (a' := ?_) #[true, true, true, true, true, true, true, true, true, true, true, true, true, true, false, false, false, false, false, false, false, false, false, false, false, false, false, false, false, false, false, false] rfl rfl (any_of HT_.out (by kernel_rfl)) (fun _ _ _ h => h) (Or.inl ⟨by rfl, ?_⟩) ?_ ?_
                          rotate_left
                          · intro w'
                            go_simp
                            with_reducible rfl
                          rotate_left
                          · simp only [Act.put, List.setIfInBounds_toArray, List.set_cons_zero, List.set_cons_succ, i64_w, i32_w]
                            rfl
                          refine pure_ (i := 14) (N := some 28) (v := ?_) (a' := ?_) #[true, true, true, true, true, true, true, true, true, true, true, true, true, true, true, false, false, false, false, false, false, false, false, false, false, false, false, false, false, false, false, false] rfl rfl (any_of HT_.out (by kernel_rfl)) (fun _ _ _ h => h) (Or.inl ⟨by rfl, ?_⟩) ?_ ?_
                          rotate_left
                          · intro w'
                            go_simp
                            with_reducible rfl
                          rotate_left
                          · simp only [Act.put, List.setIfInBounds_toArray, List.set_cons_zero, List.set_cons_succ, i64_w, i32_w]
                            rfl
                          refine pure_ (i := 15) (N := some 29) (v := ?_) (a' := ?_) #[true, true, true, true, true, true, true, true, true, true, true, true, true, true, true, true, false, false, false, false, false, false, false, false, false, false, false, false, false, false, false, false] rfl rfl (any_of HT_.out (by kernel_rfl)) (fun _ _ _ h => h) (Or.inl ⟨by rfl, ?_⟩) ?_ ?_
                          rotate_left
                          · intro w'
                            go_simp
                            with_reducible rfl
                          rotate_left
                          · simp only [Act.put, List.setIfInBounds_toArray, List.set_cons_zero, List.set_cons_succ, i64_w, i32_w]
                            rfl
                          refine pure_ (i := 16) (N := some 30) (v := ?_) (a' := ?_) #[true, true, true, true, true, true, true, true, true, true, true, true, true, true, true, true, true, false, false, false, false, false, false, false, false, false, false, false, false, false, false, false] rfl rfl (any_of HT_.out (by kernel_rfl)) (fun _ _ _ h => h) (Or.inl ⟨by rfl, ?_⟩) ?_ ?_
                          rotate_left
                          · intro w'
                            go_simp
                            with_reducible rfl
                          rotate_left
                          · simp only [Act.put, List.setIfInBounds_toArray, List.set_cons_zero, List.set_cons_succ, i64_w, i32_w]
                            rfl
                          refine pure_ (i := 17) (N := some 31) (v := ?_) (a' := ?_) #[true, true, true, true, true, true, true, true, true, true, true, true, true, true, true, true, true, true, false, false, false, false, false, false, false, false, false, false, false, false, false, false] rfl rfl (any_of HT_.out (by kernel_rfl)) (fun _ _ _ h => h) (Or.inl ⟨by rfl, ?_⟩) ?_ ?_
                          rotate_left
                          · intro w'
                            go_simp
                            with_reducible rfl
                          rotate_left
                          · simp only [Act.put, List.setIfInBounds_toArray, List.set_cons_zero, List.set_cons_succ, i64_w, i32_w]
                            rfl
                          refine pure_ (i := 18) (N := some 32) (v := ?_) (a' := ?_) #[true, true, true, true, true, true, true, true, true, true, true, true, true, true, true, true, true, true, true, false, false, false, false, false, false, false, false, false, false, false, false, false] rfl rfl (any_of HT_.out (by kernel_rfl)) (fun _ _ _ h => h) (Or.inl ⟨by rfl, ?_⟩) ?_ ?_
                          rotate_left
                          · intro w'
                            go_simp
                            with_reducible rfl
                          rotate_left
                          · simp only [Act.put, List.setIfInBounds_toArray, List.set_cons_zero, List.set_cons_succ, i64_w, i32_w]
                            rfl
                          refine take_ (i := 19) (N := some 33) (v := ?_) (a' := ?_) #[true, true, true, true, true, true, true, true, true, true, true, true, true, true, true, true, true, true, true, true, false, false, false, false, false, false, false, false, false, false, false, false] rfl rfl (take_ofW HT_.out HW_.out (by kernel_rfl)) (fun _ _ _ h => h) (Or.inl ⟨by rfl, ?_⟩) hHeld ?_ ?_
                          rotate_left
                          · rintro w' ⟨s0, s1, s2, s3, s4, s5, s6, s7, s8, s9, s10, s11, s12, s13, s14, s15, s16, s17, s18, s19⟩
                            go_simp
                            with_reducible rfl
                          rotate_left
                          · simp only [Act.put, List.setIfInBounds_toArray, List.set_cons_zero, List.set_cons_succ, i64_w, i32_w]
                            rfl
                          refine pure_ (i := 20) (N := some 34) (v := ?_) (a' := ?_) #[true, true, true, true, true, true, true, true, true, true, true, true, true, true, true, true, true, true, true, true, true, false, false, false, false, false, false, false, false, false, false, false] rfl rfl (any_of HT_.out (by kernel_rfl)) (fun _ _ _ h => h) (Or.inl ⟨by rfl, ?_⟩) ?_ ?_
                          rotate_left
                          · intro w'
                            go_simp
                            with_reducible rfl
                          rotate_left
                          · simp only [Act.put, List.setIfInBounds_toArray, List.set_cons_zero, List.set_cons_succ, i64_w, i32_w]
                            rfl
                          refine pure_ (i := 21) (N := some 35) (v := ?_) (a' := ?_) #[true, true, true, true, true, true, true, true, true, true, true, true, true, true, true, true, true, true, true, true, true, true, false, false, false, false, false, false, false, false, false, false] rfl rfl (any_of HT_.out (by kernel_rfl)) (fun _ _ _ h => h) (Or.inl ⟨by rfl, ?_⟩) ?_ ?_
                          rotate_left
                          · intro w'
                            go_simp
                            with_reducible rfl
                          rotate_left
                          · simp only [Act.put, List.setIfInBounds_toArray, List.set_cons_zero, List.set_cons_succ, i64_w, i32_w]
                            rfl
                          refine pure_ (i := 22) (N := some 36) (v := ?_) (a' := ?_) #[true, true, true, true, true, true, true, true, true, true, true, true, true, true, true, true, true, true, true, true, true, true, true, false, false, false, false, false, false, false, false, false] rfl rfl (any_of HT_.out (by kernel_rfl)) (fun _ _ _ h => h) (Or.inl ⟨by rfl, ?_⟩) ?_ ?_
                          rotate_left
                          · intro w'
                            go_simp
                            with_reducible rfl
                          rotate_left
                          · simp only [Act.put, List.setIfInBounds_toArray, List.set_cons_zero, List.set_cons_succ, i64_w, i32_w]
                            rfl
                          refine pure_ (i := 23) (N := some 37) (v := ?_) (a' := ?_) #[true, true, true, true, true, true, true, true, true, true, true, true, true, true, true, true, true, true, true, true, true, true, true, true, false, false, false, false, false, false, false, false] rfl rfl (any_of HT_.out (by kernel_rfl)) (fun _ _ _ h => h) (Or.inl ⟨by rfl, ?_⟩) ?_ ?_
                          rotate_left
                          · intro w'
                            go_simp
                            with_reducible rfl
                          rotate_left
                          · simp only [Act.put, List.setIfInBounds_toArray, List.set_cons_zero, List.set_cons_succ, i64_w, i32_w]
                            rfl
                          refine pure_ (i := 24) (N := some 38) (v := ?_) (a' := ?_) #[true, true, true, true, true, true, true, true, true, true, true, true, true, true, true, true, true, true, true, true, true, true, true, true, true, false, false, false, false, false, false, false] rfl rfl (any_of HT_.out (by kernel_rfl)) (fun _ _ _ h => h) (Or.inl ⟨by rfl, ?_⟩) ?_ ?_
                          rotate_left
                          · intro w'
                            go_simp
                            with_reducible rfl
                          rotate_left
                          · simp only [Act.put, List.setIfInBounds_toArray, List.set_cons_zero, List.set_cons_succ, i64_w, i32_w]
                            rfl
                          refine pure_ (i := 25) (N := some 39) (v := ?_) (a' := ?_) #[true, true, true, true, true, true, true, true, true, true, true, true, true, true, true, true, true, true, true, true, true, true, true, true, true, true, false, false, false, false, false, false] rfl rfl (any_of HT_.out (by kernel_rfl)) (fun _ _ _ h => h) (Or.inl ⟨by rfl, ?_⟩) ?_ ?_
                          rotate_left
                          · intro w'
                            go_simp
                            with_reducible rfl
                          rotate_left
                          · simp only [Act.put, List.setIfInBounds_toArray, List.set_cons_zero, List.set_cons_succ, i64_w, i32_w]
                            rfl
                          refine pure_ (i := 26) (N := some 40) (v := ?_) (a' := ?_) #[true, true, true, true, true, true, true, true, true, true, true, true, true, true, true, true, true, true, true, true, true, true, true, true, true, true, true, false, false, false, false, false] rfl rfl (any_of HT_.out (by kernel_rfl)) (fun _ _ _ h => h) (Or.inl ⟨by rfl, ?_⟩) ?_ ?_
                          rotate_left
                          · intro w'
                            go_simp
                            with_reducible rfl
                          rotate_left
                          · simp only [Act.put, List.setIfInBounds_toArray, List.set_cons_zero, List.set_cons_succ, i64_w, i32_w]
                            rfl
                          refine pure_ (i := 27) (N := some 41) (v := ?_) (a' := ?_) #[true, true, true, true, true, true, true, true, true, true, true, true, true, true, true, true, true, true, true, true, true, true, true, true, true, true, true, true, false, false, false, false] rfl rfl (any_of HT_.out (by kernel_rfl)) (fun _ _ _ h => h) (Or.inl ⟨by rfl, ?_⟩) ?_ ?_
                          rotate_left
                          · intro w'
                            go_simp
                            with_reducible rfl
                          rotate_left
                          · simp only [Act.put, List.setIfInBounds_toArray, List.set_cons_zero, List.set_cons_succ, i64_w, i32_w]
                            rfl
                          refine pure_ (i := 28) (N := some 42) (v := ?_) (a' := ?_) #[true, true, true, true, true, true, true, true, true, true, true, true, true, true, true, true, true, true, true, true, true, true, true, true, true, true, true, true, true, false, false, false] rfl rfl (any_of HT_.out (by kernel_rfl)) (fun _ _ _ h => h) (Or.inl ⟨by rfl, ?_⟩) ?_ ?_
                          rotate_left
                          · intro w'
                            go_simp
                            with_reducible rfl
                          rotate_left
                          · simp only [Act.put, List.setIfInBounds_toArray, List.set_cons_zero, List.set_cons_succ, i64_w, i32_w]
                            rfl
                          refine take_ (i := 29) (N := some 43) (v := ?_) (a' := ?_) #[true, true, true, true, true, true, true, true, true, true, true, true, true, true, true, true, true, true, true, true, true, true, true, true, true, true, true, true, true, true, false, false] rfl rfl (take_ofW HT_.out HW_.out (by kernel_rfl)) (fun _ _ _ h => h) (Or.inl ⟨by rfl, ?_⟩) hHeld ?_ ?_
                          rotate_left
                          · rintro w' ⟨s0, s1, s2, s3, s4, s5, s6, s7, s8, s9, s10, s11, s12, s13, s14, s15, s16, s17, s18, s19⟩
                            go_simp
                            with_reducible rfl
                          rotate_left
                          · simp only [Act.put, List.setIfInBounds_toArray, List.set_cons_zero, List.set_cons_succ, i64_w, i32_w]
                            rfl
                          refine one_ (i := 30) (N := some 44) #[true, true, true, true, true, true, true, true, true, true, true, true, true, true, true, true, true, true, true, true, true, true, true, true, true, true, true, true, true, true, true, false] rfl rfl (one_of HT_.out (by kernel_rfl)) (by decide) (fun K hK => ?_)
                          refine goes_ Try.func102 (by kernel_rfl) rfl #[.slice (some ad217) y221.length c0, .agg #[.int .i64 ((rd_T34 l0 x3_1).f0), .string ((rd_T34 l0 x3_1).f1), .int .i64 ((rd_T34 l0 x3_1).f2), .slice A217_3 ((rd_T34 l0 x3_1).f3).length c217_3, .slice A217_4 ((rd_T34 l0 x3_1).f4).length c217_4]] (by rfl) rfl rfl (by (try simp only [List.map_toArray, List.map_cons, List.map_nil]); first | done | rfl | (simp only [List.length_drop, List.length_take]; rfl)) ?_
                          with_reducible refine (spec_l4In.calls kj1 _ _ y221 ((rd_T34 l0 x3_1).f0) ((rd_T34 l0 x3_1).f1) ((rd_T34 l0 x3_1).f2) _ _ ((rd_T34 l0 x3_1).f3) _ _ ((rd_T34 l0 x3_1).f4) true _ ?side1 ?side2 ?side3 ?side4 ?side5 ?side6 A17.out).mono ?_
                          (case side1 => repeat (first | exact (Kd.C_below HR224.out HB.out) | (with_reducible refine Kd.C_alloc ?_ _) | (with_reducible refine Kd.C_drewN ?_ _) | (with_reducible refine Kd.C_drew ?_)))
                          (case side2 => exact HC224.out)
                          (case side3 => repeat (first | exact (Kd.C_below HR217_3.out HB.out) | (with_reducible refine Kd.C_alloc ?_ _) | (with_reducible refine Kd.C_drewN ?_ _) | (with_reducible refine Kd.C_drew ?_)))
                          (case side4 => exact HC217_3.out)
                          (case side5 => repeat (first | exact (Kd.C_below HR217_4.out HB.out) | (with_reducible refine Kd.C_alloc ?_ _) | (with_reducible refine Kd.C_drewN ?_ _) | (with_reducible refine Kd.C_drew ?_)))
                          (case side6 => exact HC217_4.out)
                          rintro e w22 ⟨rfl, hb⟩
                          refine ⟨_, rfl, ?_⟩
                          have n0_ := Aside0.mk (below_step (by repeat (first | (with_reducible first | exact HB.out | apply below_alloc | apply pw_below_drewN | apply below_drew1) | exact HB.out)) hb)
                          clear HB
                          have HB := n0_
                          clear n0_
                          (try clear hb)
                          (try clear hb2)
                          (try clear hk)
                          (try clear hi)
                          refine hK.out _ _ ⟨((HB.out.cell (World.block_lt_of_cell? w _ hw217_0)).trans hw217_0), ((HB.out.cell (World.block_lt_of_cell? w _ hw217_1)).trans hw217_1), ((HB.out.cell (World.block_lt_of_cell? w _ hw217_2)).trans hw217_2), ((HB.out.cell (World.block_lt_of_cell? w _ hw217_3)).trans hw217_3), ((HB.out.cell (World.block_lt_of_cell? w _ hw217_4)).trans hw217_4), ((HB.out.cell (World.block_lt_of_cell? w _ hw219_0)).trans hw219_0), ((HB.out.cell (World.block_lt_of_cell? w _ hw219_1)).trans hw219_1), ((HB.out.cell (World.block_lt_of_cell? w _ hw219_2)).trans hw219_2), ((HB.out.cell (World.block_lt_of_cell? w _ hw219_3)).trans hw219_3), ((HB.out.cell (World.block_lt_of_cell? w _ hw219_4)).trans hw219_4), ((HB.out.cell (World.block_lt_of_cell? w _ hw220_0)).trans hw220_0), ((HB.out.cell (World.block_lt_of_cell? w _ hw220_1)).trans hw220_1), ((HB.out.cell (World.block_lt_of_cell? w _ hw220_2)).trans hw220_2), ((HB.out.cell (World.block_lt_of_cell? w _ hw220_3)).trans hw220_3), ((HB.out.cell (World.block_lt_of_cell? w _ hw220_4)).trans hw220_4), ((HB.out.cell (World.block_lt_of_cell? w _ hw225_0)).trans hw225_0), ((HB.out.cell (World.block_lt_of_cell? w _ hw225_1)).trans hw225_1), ((HB.out.cell (World.block_lt_of_cell? w _ hw225_2)).trans hw225_2), ((HB.out.cell (World.block_lt_of_cell? w _ hw225_3)).trans hw225_3), ((HB.out.cell (World.block_lt_of_cell? w _ hw225_4)).trans hw225_4)⟩ (fun hHeld => ?_)
                          clear hK K
                          refine norm_ (a' := ?_) ?_ ?_
                          rotate_left
                          · show Act.put _ (some 44) _ = _
                            simp only [Act.put, List.setIfInBounds_toArray, List.set_cons_zero, List.set_cons_succ, i64_w, i32_w]
                            rfl
                          refine pure_ (i := 31) (N := some 45) (v := ?_) (a' := ?_) #[true, true, true, true, true, true, true, true, true, true, true, true, true, true, true, true, true, true, true, true, true, true, true, true, true, true, true, true, true, true, true, true] rfl rfl (any_of HT_.out (by kernel_rfl)) (fun _ _ _ h => h) (Or.inl ⟨by rfl, ?_⟩) ?_ ?_
                          rotate_left
                          · intro w'
                            go_simp
                            with_reducible rfl
                          rotate_left
                          · simp only [Act.put, List.setIfInBounds_toArray, List.set_cons_zero, List.set_cons_succ, i64_w, i32_w]
                            rfl
                          refine done_ (done_of HT_.out (by kernel_rfl)) ?_
                          try go_wp2
                          go_ret
                          exact ⟨by first | rfl | (simp [errW_none, errW_some] <;> rfl) | (simp [*, errW_none, errW_some] <;> rfl), by repeat (first | (with_reducible first | exact HB.out | apply below_alloc | apply pw_below_drewN | apply below_drew1) | exact HB.out)⟩
                        · replace c18 := Bool.eq_false_iff.mpr c18
                          subst c18
                          have H1 : (spec_l4Literals.l0 kj1 l0 (wrap64 (x3_1 + 1))) = some r := by rw [if_neg (show ¬ (false = true) by decide)] at H; exact H
                          clear H
                          have H := H1
                          clear H1
                          have H' := Aside0.mk H
                          clear H
                          try go_wp2
                          have n0_ := Aside0.mk (below_drew1 HB.out)
                          clear HB
                          have HB := n0_
                          clear n0_
                          have p217 : 0 ≤ (x3_1 : Int) := of_decide_eq_true (by first | (with_reducible assumption) | assumption)
                          have q217 : x3_1 < (l0.length : Int) := of_decide_eq_true (by first | (with_reducible assumption) | assumption)
                          obtain ⟨ad217, A217_3, c217_3, A217_4, c217_4, e217, hx217_0, hx217_1, hx217_2, hx217_3, hx217_4, hl217_3, hi217_3, hl217_4, hi217_4⟩ := at_T34 HR0.out x3_1 p217 q217
                          have hw217_4 := hx217_4
                          have hw217_3 := hx217_3
                          have hw217_2 := hx217_2
                          have hw217_1 := hx217_1
                          have hw217_0 := hx217_0
                          cases e217
                          replace hx217_0 := (HB.out.cell (World.block_lt_of_cell? w _ hx217_0)).trans hx217_0
                          replace hx217_1 := (HB.out.cell (World.block_lt_of_cell? w _ hx217_1)).trans hx217_1
                          replace hx217_2 := (HB.out.cell (World.block_lt_of_cell? w _ hx217_2)).trans hx217_2
                          replace hx217_3 := (HB.out.cell (World.block_lt_of_cell? w _ hx217_3)).trans hx217_3
                          replace hx217_4 := (HB.out.cell (World.block_lt_of_cell? w _ hx217_4)).trans hx217_4
                          have HR217_3 := Aside0.mk hi217_3
                          have HC217_3 := Aside0.mk hl217_3
                          clear hi217_3 hl217_3
                          have HR217_4 := Aside0.mk hi217_4
                          have HC217_4 := Aside0.mk hl217_4
                          clear hi217_4 hl217_4
                          replace p217 := eq_true p217
                          replace q217 := eq_true q217
                          have p219 : 0 ≤ (x3_1 : Int) := of_decide_eq_true (by first | (with_reducible assumption) | assumption)
                          have q219 : x3_1 < (l0.length : Int) := of_decide_eq_true (by first | (with_reducible assumption) | assumption)
                          obtain ⟨ad219, A219_3, c219_3, A219_4, c219_4, e219, hx219_0, hx219_1, hx219_2, hx219_3, hx219_4, hl219_3, hi219_3, hl219_4, hi219_4⟩ := at_T34 HR0.out x3_1 p219 q219
                          have hw219_4 := hx219_4
                          have hw219_3 := hx219_3
                          have hw219_2 := hx219_2
                          have hw219_1 := hx219_1
                          have hw219_0 := hx219_0
                          obtain rfl : ad217 = ad219 := (by injection e219)
                          replace hx219_0 := (HB.out.cell (World.block_lt_of_cell? w _ hx219_0)).trans hx219_0
                          replace hx219_1 := (HB.out.cell (World.block_lt_of_cell? w _ hx219_1)).trans hx219_1
                          replace hx219_2 := (HB.out.cell (World.block_lt_of_cell? w _ hx219_2)).trans hx219_2
                          replace hx219_3 := (HB.out.cell (World.block_lt_of_cell? w _ hx219_3)).trans hx219_3
                          replace hx219_4 := (HB.out.cell (World.block_lt_of_cell? w _ hx219_4)).trans hx219_4
                          have HR219_3 := Aside0.mk hi219_3
                          have HC219_3 := Aside0.mk hl219_3
                          clear hi219_3 hl219_3
                          have HR219_4 := Aside0.mk hi219_4
                          have HC219_4 := Aside0.mk hl219_4
                          clear hi219_4 hl219_4
                          replace p219 := eq_true p219
                          replace q219 := eq_true q219
                          have p220 : 0 ≤ (x3_1 : Int) := of_decide_eq_true (by first | (with_reducible assumption) | assumption)
                          have q220 : x3_1 < (l0.length : Int) := of_decide_eq_true (by first | (with_reducible assumption) | assumption)
                          obtain ⟨ad220, A220_3, c220_3, A220_4, c220_4, e220, hx220_0, hx220_1, hx220_2, hx220_3, hx220_4, hl220_3, hi220_3, hl220_4, hi220_4⟩ := at_T34 HR0.out x3_1 p220 q220
                          have hw220_4 := hx220_4
                          have hw220_3 := hx220_3
                          have hw220_2 := hx220_2
                          have hw220_1 := hx220_1
                          have hw220_0 := hx220_0
                          obtain rfl : ad217 = ad220 := (by injection e220)
                          replace hx220_0 := (HB.out.cell (World.block_lt_of_cell? w _ hx220_0)).trans hx220_0
                          replace hx220_1 := (HB.out.cell (World.block_lt_of_cell? w _ hx220_1)).trans hx220_1
                          replace hx220_2 := (HB.out.cell (World.block_lt_of_cell? w _ hx220_2)).trans hx220_2
                          replace hx220_3 := (HB.out.cell (World.block_lt_of_cell? w _ hx220_3)).trans hx220_3
                          replace hx220_4 := (HB.out.cell (World.block_lt_of_cell? w _ hx220_4)).trans hx220_4
                          have HR220_3 := Aside0.mk hi220_3
                          have HC220_3 := Aside0.mk hl220_3
                          clear hi220_3 hl220_3
                          have HR220_4 := Aside0.mk hi220_4
                          have HC220_4 := Aside0.mk hl220_4
                          clear hi220_4 hl220_4
                          replace p220 := eq_true p220
                          replace q220 := eq_true q220
                          have ea_ := Option.some.inj (hx219_3.symm.trans hx220_3)
                          injection ea_ with ea_ en_ ec_
                          subst ea_
                          subst ec_
                          clear en_
                          have ea_ := Option.some.inj (hx219_4.symm.trans hx220_4)
                          injection ea_ with ea_ en_ ec_
                          subst ea_
                          subst ec_
                          clear en_
                          have p225 : 0 ≤ (x3_1 : Int) := of_decide_eq_true (by first | (with_reducible assumption) | assumption)
                          have q225 : x3_1 < (l0.length : Int) := of_decide_eq_true (by first | (with_reducible assumption) | assumption)
                          obtain ⟨ad225, A225_3, c225_3, A225_4, c225_4, e225, hx225_0, hx225_1, hx225_2, hx225_3, hx225_4, hl225_3, hi225_3, hl225_4, hi225_4⟩ := at_T34 HR0.out x3_1 p225 q225
                          have hw225_4 := hx225_4
                          have hw225_3 := hx225_3
                          have hw225_2 := hx225_2
                          have hw225_1 := hx225_1
                          have hw225_0 := hx225_0
                          obtain rfl : ad217 = ad225 := (by injection e225)
                          replace hx225_0 := (HB.out.cell (World.block_lt_of_cell? w _ hx225_0)).trans hx225_0
                          replace hx225_1 := (HB.out.cell (World.block_lt_of_cell? w _ hx225_1)).trans hx225_1
                          replace hx225_2 := (HB.out.cell (World.block_lt_of_cell? w _ hx225_2)).trans hx225_2
                          replace hx225_3 := (HB.out.cell (World.block_lt_of_cell? w _ hx225_3)).trans hx225_3
                          replace hx225_4 := (HB.out.cell (World.block_lt_of_cell? w _ hx225_4)).trans hx225_4
                          have HR225_3 := Aside0.mk hi225_3
                          have HC225_3 := Aside0.mk hl225_3
                          clear hi225_3 hl225_3
                          have HR225_4 := Aside0.mk hi225_4
                          have HC225_4 := Aside0.mk hl225_4
                          clear hi225_4 hl225_4
                          replace p225 := eq_true p225
                          replace q225 := eq_true q225
                          have ea_ := Option.some.inj (hx219_3.symm.trans hx225_3)
                          injection ea_ with ea_ en_ ec_
                          subst ea_
                          subst ec_
                          clear en_
                          have ea_ := Option.some.inj (hx219_4.symm.trans hx225_4)
                          injection ea_ with ea_ en_ ec_
                          subst ea_
                          subst ec_
                          clear en_
                          refine start_ (n := 32) (S := fun w' => w'.cell? (ad217.add ((x3_1).toNat * 5)) = some (.int .i64 ((rd_T34 l0 x3_1).f0)) ∧ w'.cell? ⟨(ad217.add ((x3_1).toNat * 5)).block, (ad217.add ((x3_1).toNat * 5)).off + 1, none⟩ = some (.string ((rd_T34 l0 x3_1).f1)) ∧ w'.cell? ⟨(ad217.add ((x3_1).toNat * 5)).block, (ad217.add ((x3_1).toNat * 5)).off + 2, none⟩ = some (.int .i64 ((rd_T34 l0 x3_1).f2)) ∧ w'.cell? ⟨(ad217.add ((x3_1).toNat * 5)).block, (ad217.add ((x3_1).toNat * 5)).off + 3, none⟩ = some (.slice A217_3 ((rd_T34 l0 x3_1).f3).length c217_3) ∧ w'.cell? ⟨(ad217.add ((x3_1).toNat * 5)).block, (ad217.add ((x3_1).toNat * 5)).off + 4, none⟩ = some (.slice A217_4 ((rd_T34 l0 x3_1).f4).length c217_4) ∧ w'.cell? (ad217.add ((x3_1).toNat * 5)) = some (.int .i64 ((rd_T34 l0 x3_1).f0)) ∧ w'.cell? ⟨(ad217.add ((x3_1).toNat * 5)).block, (ad217.add ((x3_1).toNat * 5)).off + 1, none⟩ = some (.string ((rd_T34 l0 x3_1).f1)) ∧ w'.cell? ⟨(ad217.add ((x3_1).toNat * 5)).block, (ad217.add ((x3_1).toNat * 5)).off + 2, none⟩ = some (.int .i64 ((rd_T34 l0 x3_1).f2)) ∧ w'.cell? ⟨(ad217.add ((x3_1).toNat * 5)).block, (ad217.add ((x3_1).toNat * 5)).off + 3, none⟩ = some (.slice A219_3 ((rd_T34 l0 x3_1).f3).length c219_3) ∧ w'.cell? ⟨(ad217.add ((x3_1).toNat * 5)).block, (ad217.add ((x3_1).toNat * 5)).off + 4, none⟩ = some (.slice A219_4 ((rd_T34 l0 x3_1).f4).length c219_4) ∧ w'.cell? (ad217.add ((x3_1).toNat * 5)) = some (.int .i64 ((rd_T34 l0 x3_1).f0)) ∧ w'.cell? ⟨(ad217.add ((x3_1).toNat * 5)).block, (ad217.add ((x3_1).toNat * 5)).off + 1, none⟩ = some (.string ((rd_T34 l0 x3_1).f1)) ∧ w'.cell? ⟨(ad217.add ((x3_1).toNat * 5)).block, (ad217.add ((x3_1).toNat * 5)).off + 2, none⟩ = some (.int .i64 ((rd_T34 l0 x3_1).f2)) ∧ w'.cell? ⟨(ad217.add ((x3_1).toNat * 5)).block, (ad217.add ((x3_1).toNat * 5)).off + 3, none⟩ = some (.slice A219_3 ((rd_T34 l0 x3_1).f3).length c219_3) ∧ w'.cell? ⟨(ad217.add ((x3_1).toNat * 5)).block, (ad217.add ((x3_1).toNat * 5)).off + 4, none⟩ = some (.slice A219_4 ((rd_T34 l0 x3_1).f4).length c219_4) ∧ w'.cell? (ad217.add ((x3_1).toNat * 5)) = some (.int .i64 ((rd_T34 l0 x3_1).f0)) ∧ w'.cell? ⟨(ad217.add ((x3_1).toNat * 5)).block, (ad217.add ((x3_1).toNat * 5)).off + 1, none⟩ = some (.string ((rd_T34 l0 x3_1).f1)) ∧ w'.cell? ⟨(ad217.add ((x3_1).toNat * 5)).block, (ad217.add ((x3_1).toNat * 5)).off + 2, none⟩ = some (.int .i64 ((rd_T34 l0 x3_1).f2)) ∧ w'.cell? ⟨(ad217.add ((x3_1).toNat * 5)).block, (ad217.add ((x3_1).toNat * 5)).off + 3, none⟩ = some (.slice A219_3 ((rd_T34 l0 x3_1).f3).length c219_3) ∧ w'.cell? ⟨(ad217.add ((x3_1).toNat * 5)).block, (ad217.add ((x3_1).toNat * 5)).off + 4, none⟩ = some (.slice A219_4 ((rd_T34 l0 x3_1).f4).length c219_4)) (ds := []) #[false, false, false, false, false, false, false, false, false, false, false, false, false, false, false, false, false, false, false, false, false, false, false, false, false, false, false, false, false, false, false, false] (by kernel_rfl) rfl rfl ⟨((HB.out.cell (World.block_lt_of_cell? w _ hw217_0)).trans hw217_0), ((HB.out.cell (World.block_lt_of_cell? w _ hw217_1)).trans hw217_1), ((HB.out.cell (World.block_lt_of_cell? w _ hw217_2)).trans hw217_2), ((HB.out.cell (World.block_lt_of_cell? w _ hw217_3)).trans hw217_3), ((HB.out.cell (World.block_lt_of_cell? w _ hw217_4)).trans hw217_4), ((HB.out.cell (World.block_lt_of_cell? w _ hw219_0)).trans hw219_0), ((HB.out.cell (World.block_lt_of_cell? w _ hw219_1)).trans hw219_1), ((HB.out.cell (World.block_lt_of_cell? w _ hw219_2)).trans hw219_2), ((HB.out.cell (World.block_lt_of_cell? w _ hw219_3)).trans hw219_3), ((HB.out.cell (World.block_lt_of_cell? w _ hw219_4)).trans hw219_4), ((HB.out.cell (World.block_lt_of_cell? w _ hw220_0)).trans hw220_0), ((HB.out.cell (World.block_lt_of_cell? w _ hw220_1)).trans hw220_1), ((HB.out.cell (World.block_lt_of_cell? w _ hw220_2)).trans hw220_2), ((HB.out.cell (World.block_lt_of_cell? w _ hw220_3)).trans hw220_3), ((HB.out.cell (World.block_lt_of_cell? w _ hw220_4)).trans hw220_4), ((HB.out.cell (World.block_lt_of_cell? w _ hw225_0)).trans hw225_0), ((HB.out.cell (World.block_lt_of_cell? w _ hw225_1)).trans hw225_1), ((HB.out.cell (World.block_lt_of_cell? w _ hw225_2)).trans hw225_2), ((HB.out.cell (World.block_lt_of_cell? w _ hw225_3)).trans hw225_3), ((HB.out.cell (World.block_lt_of_cell? w _ hw225_4)).trans hw225_4)⟩ (fun hHeld => ?_); refine with_tabW spec_l4Literals.tab4 spec_l4Literals.bits4 (fun HT_ HW_ => ?_)
                          generalize wc.drew = w23 at HB HR217_3 HR217_4 HR219_3 HR219_4 HR220_3 HR220_4 HR225_3 HR225_4 hx217_0 hx217_1 hx217_2 hx217_3 hx217_4 hx219_0 hx219_1 hx219_2 hx219_3 hx219_4 hx220_0 hx220_1 hx220_2 hx220_3 hx220_4 hx225_0 hx225_1 hx225_2 hx225_3 hx225_4 hHeld ⊢
                          refine pure_ (i := 0) (N := some 14) (v := ?_) (a' := ?_) #[true, false, false, false, false, false, false, false, false, false, false, false, false, false, false, false, false, false, false, false, false, false, false, false, false, false, false, false, false, false, false, false] rfl rfl (any_of HT_.out (by kernel_rfl)) (fun _ _ _ h => h) (Or.inl ⟨by rfl, ?_⟩) ?_ ?_
                          rotate_left
                          · intro w'
                            go_simp
                            with_reducible rfl
                          rotate_left
                          · simp only [Act.put, List.setIfInBounds_toArray, List.set_cons_zero, List.set_cons_succ, i64_w, i32_w]
                            rfl
                          refine pure_ (i := 1) (N := some 15) (v := ?_) (a' := ?_) #[true, true, false, false, false, false, false, false, false, false, false, false, false, false, false, false, false, false, false, false, false, false, false, false, false, false, false, false, false, false, false, false] rfl rfl (any_of HT_.out (by kernel_rfl)) (fun _ _ _ h => h) (Or.inl ⟨by rfl, ?_⟩) ?_ ?_
                          rotate_left
                          · intro w'
                            go_simp
                            with_reducible rfl
                          rotate_left
                          · simp only [Act.put, List.setIfInBounds_toArray, List.set_cons_zero, List.set_cons_succ, i64_w, i32_w]
                            rfl
                          refine pure_ (i := 2) (N := some 16) (v := ?_) (a' := ?_) #[true, true, true, false, false, false, false, false, false, false, false, false, false, false, false, false, false, false, false, false, false, false, false, false, false, false, false, false, false, false, false, false] rfl rfl (any_of HT_.out (by kernel_rfl)) (fun _ _ _ h => h) (Or.inl ⟨by rfl, ?_⟩) ?_ ?_
                          rotate_left
                          · intro w'
                            go_simp
                            with_reducible rfl
                          rotate_left
                          · simp only [Act.put, List.setIfInBounds_toArray, List.set_cons_zero, List.set_cons_succ, i64_w, i32_w]
                            rfl
                          refine take_ (i := 3) (N := some 17) (v := ?_) (a' := ?_) #[true, true, true, true, false, false, false, false, false, false, false, false, false, false, false, false, false, false, false, false, false, false, false, false, false, false, false, false, false, false, false, false] rfl rfl (take_ofW HT_.out HW_.out (by kernel_rfl)) (fun _ _ _ h => h) (Or.inl ⟨by rfl, ?_⟩) hHeld ?_ ?_
                          rotate_left
                          · rintro w' ⟨s0, s1, s2, s3, s4, s5, s6, s7, s8, s9, s10, s11, s12, s13, s14, s15, s16, s17, s18, s19⟩
                            go_simp
                            with_reducible rfl
                          rotate_left
                          · simp only [Act.put, List.setIfInBounds_toArray, List.set_cons_zero, List.set_cons_succ, i64_w, i32_w]
                            rfl
                          refine one_ (i := 4) (N := some 18) #[true, true, true, true, true, false, false, false, false, false, false, false, false, false, false, false, false, false, false, false, false, false, false, false, false, false, false, false, false, false, false, false] rfl rfl (one_of HT_.out (by kernel_rfl)) (by decide) (fun K hK => ?_)
                          refine goes_ Try.func46 (by kernel_rfl) rfl #[.agg #[.int .i64 ((rd_T34 l0 x3_1).f0), .string ((rd_T34 l0 x3_1).f1), .int .i64 ((rd_T34 l0 x3_1).f2), .slice A217_3 ((rd_T34 l0 x3_1).f3).length c217_3, .slice A217_4 ((rd_T34 l0 x3_1).f4).length c217_4]] (by rfl) rfl rfl (by (try simp only [List.map_toArray, List.map_cons, List.map_nil]); first | done | rfl | (simp only [List.length_drop, List.length_take]; rfl)) ?_
                          with_reducible refine (spec_l3Is.calls ((rd_T34 l0 x3_1).f0) ((rd_T34 l0 x3_1).f1) ((rd_T34 l0 x3_1).f2) _ _ ((rd_T34 l0 x3_1).f3) _ _ ((rd_T34 l0 x3_1).f4) true _ ?side1 ?side2 ?side3 ?side4 A7.out).mono ?_
                          (case side1 => repeat (first | exact (Kd.C_below HR217_3.out HB.out) | (with_reducible refine Kd.C_alloc ?_ _) | (with_reducible refine Kd.C_drewN ?_ _) | (with_reducible refine Kd.C_drew ?_)))
                          (case side2 => exact HC217_3.out)
                          (case side3 => repeat (first | exact (Kd.C_below HR217_4.out HB.out) | (with_reducible refine Kd.C_alloc ?_ _) | (with_reducible refine Kd.C_drewN ?_ _) | (with_reducible refine Kd.C_drew ?_)))
                          (case side4 => exact HC217_4.out)
                          rintro e w24 ⟨rfl, hb⟩
                          refine ⟨_, rfl, ?_⟩
                          have n0_ := Aside0.mk (below_step (by repeat (first | (with_reducible first | exact HB.out | apply below_alloc | apply pw_below_drewN | apply below_drew1) | exact HB.out)) hb)
                          clear HB
                          have HB := n0_
                          clear n0_
                          (try clear hb)
                          (try clear hb2)
                          (try clear hk)
                          (try clear hi)
                          have q25 : (x3_1 : Int) ≤ ((l0.length : Int) : Int) := of_decide_eq_true (by first | (with_reducible assumption) | assumption)
                          obtain ⟨i025, hi025, _, hsz25, _⟩ := info_parts info34
                          have hroom25 : l0.length ≤ c0 := HC0.out
                          have hC25 : Kd.C k34 _ (some ad217) l0.length l0 := HR0.out
                          have hcut25 := cut_to (P := Try.prog) 32 34 .i64 Try.underlying32 hi025 (some ad217) l0.length c0 x3_1 (of_decide_eq_true (by first | (with_reducible assumption) | assumption)) q25 hroom25
                          have hr25 := Kd.C_take (m := (x3_1 : Int).toNat) hC25 (by omega)
                          have hy25 : y221.length = (x3_1 : Int).toNat := (by rw [Ny221.out, List.length_take]; omega)
                          rw [← Ny221.out] at hr25
                          rw [← hy25] at hcut25
                          have HR224 := Aside0.mk hr25
                          have HC224 := Aside0.mk (show y221.length ≤ c0 from by omega)
                          clear hr25 hC25 hroom25 hi025 hsz25
                          have KY25 := Aside0.mk hy25
                          clear hy25
                          replace q25 := eq_true q25
                          refine hK.out _ _ ⟨((HB.out.cell (World.block_lt_of_cell? w _ hw217_0)).trans hw217_0), ((HB.out.cell (World.block_lt_of_cell? w _ hw217_1)).trans hw217_1), ((HB.out.cell (World.block_lt_of_cell? w _ hw217_2)).trans hw217_2), ((HB.out.cell (World.block_lt_of_cell? w _ hw217_3)).trans hw217_3), ((HB.out.cell (World.block_lt_of_cell? w _ hw217_4)).trans hw217_4), ((HB.out.cell (World.block_lt_of_cell? w _ hw219_0)).trans hw219_0), ((HB.out.cell (World.block_lt_of_cell? w _ hw219_1)).trans hw219_1), ((HB.out.cell (World.block_lt_of_cell? w _ hw219_2)).trans hw219_2), ((HB.out.cell (World.block_lt_of_cell? w _ hw219_3)).trans hw219_3), ((HB.out.cell (World.block_lt_of_cell? w _ hw219_4)).trans hw219_4), ((HB.out.cell (World.block_lt_of_cell? w _ hw220_0)).trans hw220_0), ((HB.out.cell (World.block_lt_of_cell? w _ hw220_1)).trans hw220_1), ((HB.out.cell (World.block_lt_of_cell? w _ hw220_2)).trans hw220_2), ((HB.out.cell (World.block_lt_of_cell? w _ hw220_3)).trans hw220_3), ((HB.out.cell (World.block_lt_of_cell? w _ hw220_4)).trans hw220_4), ((HB.out.cell (World.block_lt_of_cell? w _ hw225_0)).trans hw225_0), ((HB.out.cell (World.block_lt_of_cell? w _ hw225_1)).trans hw225_1), ((HB.out.cell (World.block_lt_of_cell? w _ hw225_2)).trans hw225_2), ((HB.out.cell (World.block_lt_of_cell? w _ hw225_3)).trans hw225_3), ((HB.out.cell (World.block_lt_of_cell? w _ hw225_4)).trans hw225_4)⟩ (fun hHeld => ?_)
                          clear hK K
                          refine norm_ (a' := ?_) ?_ ?_
                          rotate_left
                          · show Act.put _ (some 18) _ = _
                            simp only [Act.put, List.setIfInBounds_toArray, List.set_cons_zero, List.set_cons_succ, i64_w, i32_w]
                            rfl
                          refine pure_ (i := 5) (N := some 19) (v := ?_) (a' := ?_) #[true, true, true, true, true, true, false, false, false, false, false, false, false, false, false, false, false, false, false, false, false, false, false, false, false, false, false, false, false, false, false, false] rfl rfl (any_of HT_.out (by kernel_rfl)) (fun _ _ _ h => h) (Or.inl ⟨by rfl, ?_⟩) ?_ ?_
                          rotate_left
                          · intro w'
                            go_simp
                            with_reducible rfl
                          rotate_left
                          · simp only [Act.put, List.setIfInBounds_toArray, List.set_cons_zero, List.set_cons_succ, i64_w, i32_w]
                            rfl
                          refine pure_ (i := 6) (N := some 20) (v := ?_) (a' := ?_) #[true, true, true, true, true, true, true, false, false, false, false, false, false, false, false, false, false, false, false, false, false, false, false, false, false, false, false, false, false, false, false, false] rfl rfl (any_of HT_.out (by kernel_rfl)) (fun _ _ _ h => h) (Or.inl ⟨by rfl, ?_⟩) ?_ ?_
                          rotate_left
                          · intro w'
                            go_simp
                            with_reducible rfl
                          rotate_left
                          · simp only [Act.put, List.setIfInBounds_toArray, List.set_cons_zero, List.set_cons_succ, i64_w, i32_w]
                            rfl
                          refine pure_ (i := 7) (N := some 21) (v := ?_) (a' := ?_) #[true, true, true, true, true, true, true, true, false, false, false, false, false, false, false, false, false, false, false, false, false, false, false, false, false, false, false, false, false, false, false, false] rfl rfl (any_of HT_.out (by kernel_rfl)) (fun _ _ _ h => h) (Or.inl ⟨by rfl, ?_⟩) ?_ ?_
                          rotate_left
                          · intro w'
                            go_simp
                            with_reducible rfl
                          rotate_left
                          · simp only [Act.put, List.setIfInBounds_toArray, List.set_cons_zero, List.set_cons_succ, i64_w, i32_w]
                            rfl
                          refine pure_ (i := 8) (N := some 22) (v := ?_) (a' := ?_) #[true, true, true, true, true, true, true, true, true, false, false, false, false, false, false, false, false, false, false, false, false, false, false, false, false, false, false, false, false, false, false, false] rfl rfl (any_of HT_.out (by kernel_rfl)) (fun _ _ _ h => h) (Or.inl ⟨by rfl, ?_⟩) ?_ ?_
                          rotate_left
                          · intro w'
                            go_simp
                            with_reducible rfl
                          rotate_left
                          · simp only [Act.put, List.setIfInBounds_toArray, List.set_cons_zero, List.set_cons_succ, i64_w, i32_w]
                            rfl
                          refine pure_ (i := 9) (N := some 23) (v := ?_) (a' := ?_) #[true, true, true, true, true, true, true, true, true, true, false, false, false, false, false, false, false, false, false, false, false, false, false, false, false, false, false, false, false, false, false, false] rfl rfl (any_of HT_.out (by kernel_rfl)) (fun _ _ _ h => h) (Or.inl ⟨by rfl, ?_⟩) ?_ ?_
                          rotate_left
                          · intro w'
                            go_simp
                            with_reducible rfl
                          rotate_left
                          · simp only [Act.put, List.setIfInBounds_toArray, List.set_cons_zero, List.set_cons_succ, i64_w, i32_w]
                            rfl
                          refine pure_ (i := 10) (N := some 24) (v := ?_) (a' := ?_) #[true, true, true, true, true, true, true, true, true, true, true, false, false, false, false, false, false, false, false, false, false, false, false, false, false, false, false, false, false, false, false, false] rfl rfl (any_of HT_.out (by kernel_rfl)) (fun _ _ _ h => h) (Or.inl ⟨by rfl, ?_⟩) ?_ ?_
                          rotate_left
                          · intro w'
                            go_simp
                            with_reducible rfl
                          rotate_left
                          · simp only [Act.put, List.setIfInBounds_toArray, List.set_cons_zero, List.set_cons_succ, i64_w, i32_w]
                            rfl
                          refine take_ (i := 11) (N := some 25) (v := ?_) (a' := ?_) #[true, true, true, true, true, true, true, true, true, true, true, true, false, false, false, false, false, false, false, false, false, false, false, false, false, false, false, false, false, false, false, false] rfl rfl (take_ofW HT_.out HW_.out (by kernel_rfl)) (fun _ _ _ h => h) (Or.inl ⟨by rfl, ?_⟩) hHeld ?_ ?_
                          rotate_left
                          · rintro w' ⟨s0, s1, s2, s3, s4, s5, s6, s7, s8, s9, s10, s11, s12, s13, s14, s15, s16, s17, s18, s19⟩
                            go_simp
                            with_reducible rfl
                          rotate_left
                          · simp only [Act.put, List.setIfInBounds_toArray, List.set_cons_zero, List.set_cons_succ, i64_w, i32_w]
                            rfl
                          refine pure_ (i := 12) (N := some 26) (v := ?_) (a' := ?_) #[true, true, true, true, true, true, true, true, true, true, true, true, true, false, false, false, false, false, false, false, false, false, false, false, false, false, false, false, false, false, false, false] rfl rfl (any_of HT_.out (by kernel_rfl)) (fun _ _ _ h => h) (Or.inl ⟨by rfl, ?_⟩) ?_ ?_
                          rotate_left
                          · intro w'
                            go_simp
                            with_reducible rfl
                          rotate_left
                          · simp only [Act.put, List.setIfInBounds_toArray, List.set_cons_zero, List.set_cons_succ, i64_w, i32_w]
                            rfl
                          refine pure_ (i := 13) (N := some 27) (v := ?_) (a' := ?_) #[true, true, true, true, true, true, true, true, true, true, true, true, true, true, false, false, false, false, false, false, false, false, false, false, false, false, false, false, false, false, false, false] rfl rfl (any_of HT_.out (by kernel_rfl)) (fun _ _ _ h => h) (Or.inl ⟨by rfl, ?_⟩) ?_ ?_
                          rotate_left
                          · intro w'
                            go_simp
                            with_reducible rfl
                          rotate_left
                          · simp only [Act.put, List.setIfInBounds_toArray, List.set_cons_zero, List.set_cons_succ, i64_w, i32_w]
                            rfl
                          refine pure_ (i := 14) (N := some 28) (v := ?_) (a' := ?_) #[true, true, true, true, true, true, true, true, true, true, true, true, true, true, true, false, false, false, false, false, false, false, false, false, false, false, false, false, false, false, false, false] rfl rfl (any_of HT_.out (by kernel_rfl)) (fun _ _ _ h => h) (Or.inl ⟨by rfl, ?_⟩) ?_ ?_
                          rotate_left
                          · intro w'
                            go_simp
                            with_reducible rfl
                          rotate_left
                          · simp only [Act.put, List.setIfInBounds_toArray, List.set_cons_zero, List.set_cons_succ, i64_w, i32_w]
                            rfl
                          refine pure_ (i := 15) (N := some 29) (v := ?_) (a' := ?_) #[true, true, true, true, true, true, true, true, true, true, true, true, true, true, true, true, false, false, false, false, false, false, false, false, false, false, false, false, false, false, false, false] rfl rfl (any_of HT_.out (by kernel_rfl)) (fun _ _ _ h => h) (Or.inl ⟨by rfl, ?_⟩) ?_ ?_
                          rotate_left
                          · intro w'
                            go_simp
                            with_reducible rfl
                          rotate_left
                          · simp only [Act.put, List.setIfInBounds_toArray, List.set_cons_zero, List.set_cons_succ, i64_w, i32_w]
                            rfl
                          refine pure_ (i := 16) (N := some 30) (v := ?_) (a' := ?_) #[true, true, true, true, true, true, true, true, true, true, true, true, true, true, true, true, true, false, false, false, false, false, false, false, false, false, false, false, false, false, false, false] rfl rfl (any_of HT_.out (by kernel_rfl)) (fun _ _ _ h => h) (Or.inl ⟨by rfl, ?_⟩) ?_ ?_
                          rotate_left
                          · intro w'
                            go_simp
                            with_reducible rfl
                          rotate_left
                          · simp only [Act.put, List.setIfInBounds_toArray, List.set_cons_zero, List.set_cons_succ, i64_w, i32_w]
                            rfl
                          refine pure_ (i := 17) (N := some 31) (v := ?_) (a' := ?_) #[true, true, true, true, true, true, true, true, true, true, true, true, true, true, true, true, true, true, false, false, false, false, false, false, false, false, false, false, false, false, false, false] rfl rfl (any_of HT_.out (by kernel_rfl)) (fun _ _ _ h => h) (Or.inl ⟨by rfl, ?_⟩) ?_ ?_
                          rotate_left
                          · intro w'
                            go_simp
                            with_reducible rfl
                          rotate_left
                          · simp only [Act.put, List.setIfInBounds_toArray, List.set_cons_zero, List.set_cons_succ, i64_w, i32_w]
                            rfl
                          refine pure_ (i := 18) (N := some 32) (v := ?_) (a' := ?_) #[true, true, true, true, true, true, true, true, true, true, true, true, true, true, true, true, true, true, true, false, false, false, false, false, false, false, false, false, false, false, false, false] rfl rfl (any_of HT_.out (by kernel_rfl)) (fun _ _ _ h => h) (Or.inl ⟨by rfl, ?_⟩) ?_ ?_
                          rotate_left
                          · intro w'
                            go_simp
                            with_reducible rfl
                          rotate_left
                          · simp only [Act.put, List.setIfInBounds_toArray, List.set_cons_zero, List.set_cons_succ, i64_w, i32_w]
                            rfl
                          refine take_ (i := 19) (N := some 33) (v := ?_) (a' := ?_) #[true, true, true, true, true, true, true, true, true, true, true, true, true, true, true, true, true, true, true, true, false, false, false, false, false, false, false, false, false, false, false, false] rfl rfl (take_ofW HT_.out HW_.out (by kernel_rfl)) (fun _ _ _ h => h) (Or.inl ⟨by rfl, ?_⟩) hHeld ?_ ?_
                          rotate_left
                          · rintro w' ⟨s0, s1, s2, s3, s4, s5, s6, s7, s8, s9, s10, s11, s12, s13, s14, s15, s16, s17, s18, s19⟩
                            go_simp
                            with_reducible rfl
                          rotate_left
                          · simp only [Act.put, List.setIfInBounds_toArray, List.set_cons_zero, List.set_cons_succ, i64_w, i32_w]
                            rfl
                          refine pure_ (i := 20) (N := some 34) (v := ?_) (a' := ?_) #[true, true, true, true, true, true, true, true, true, true, true, true, true, true, true, true, true, true, true, true, true, false, false, false, false, false, false, false, false, false, false, false] rfl rfl (any_of HT_.out (by kernel_rfl)) (fun _ _ _ h => h) (Or.inl ⟨by rfl, ?_⟩) ?_ ?_
                          rotate_left
                          · intro w'
                            go_simp
                            with_reducible rfl
                          rotate_left
                          · simp only [Act.put, List.setIfInBounds_toArray, List.set_cons_zero, List.set_cons_succ, i64_w, i32_w]
                            rfl
                          refine pure_ (i := 21) (N := some 35) (v := ?_) (a' := ?_) #[true, true, true, true, true, true, true, true, true, true, true, true, true, true, true, true, true, true, true, true, true, true, false, false, false, false, false, false, false, false, false, false] rfl rfl (any_of HT_.out (by kernel_rfl)) (fun _ _ _ h => h) (Or.inl ⟨by rfl, ?_⟩) ?_ ?_
                          rotate_left
                          · intro w'
                            go_simp
                            with_reducible rfl
                          rotate_left
                          · simp only [Act.put, List.setIfInBounds_toArray, List.set_cons_zero, List.set_cons_succ, i64_w, i32_w]
                            rfl
                          refine pure_ (i := 22) (N := some 36) (v := ?_) (a' := ?_) #[true, true, true, true, true, true, true, true, true, true, true, true, true, true, true, true, true, true, true, true, true, true, true, false, false, false, false, false, false, false, false, false] rfl rfl (any_of HT_.out (by kernel_rfl)) (fun _ _ _ h => h) (Or.inl ⟨by rfl, ?_⟩) ?_ ?_
                          rotate_left
                          · intro w'
                            go_simp
                            with_reducible rfl
                          rotate_left
                          · simp only [Act.put, List.setIfInBounds_toArray, List.set_cons_zero, List.set_cons_succ, i64_w, i32_w]
                            rfl
                          refine pure_ (i := 23) (N := some 37) (v := ?_) (a' := ?_) #[true, true, true, true, true, true, true, true, true, true, true, true, true, true, true, true, true, true, true, true, true, true, true, true, false, false, false, false, false, false, false, false] rfl rfl (any_of HT_.out (by kernel_rfl)) (fun _ _ _ h => h) (Or.inl ⟨by rfl, ?_⟩) ?_ ?_
                          rotate_left
                          · intro w'
                            go_simp
                            with_reducible rfl
                          rotate_left
                          · simp only [Act.put, List.setIfInBounds_toArray, List.set_cons_zero, List.set_cons_succ, i64_w, i32_w]
                            rfl
                          refine pure_ (i := 24) (N := some 38) (v := ?_) (a' := ?_) #[true, true, true, true, true, true, true, true, true, true, true, true, true, true, true, true, true, true, true, true, true, true, true, true, true, false, false, false, false, false, false, false] rfl rfl (any_of HT_.out (by kernel_rfl)) (fun _ _ _ h => h) (Or.inl ⟨by rfl, ?_⟩) ?_ ?_
                          rotate_left
                          · intro w'
                            go_simp
                            with_reducible rfl
                          rotate_left
                          · simp only [Act.put, List.setIfInBounds_toArray, List.set_cons_zero, List.set_cons_succ, i64_w, i32_w]
                            rfl
                          refine pure_ (i := 25) (N := some 39) (v := ?_) (a' := ?_) #[true, true, true, true, true, true, true, true, true, true, true, true, true, true, true, true, true, true, true, true, true, true, true, true, true, true, false, false, false, false, false, false] rfl rfl (any_of HT_.out (by kernel_rfl)) (fun _ _ _ h => h) (Or.inl ⟨by rfl, ?_⟩) ?_ ?_
                          rotate_left
                          · intro w'
                            go_simp
                            with_reducible rfl
                          rotate_left
                          · simp only [Act.put, List.setIfInBounds_toArray, List.set_cons_zero, List.set_cons_succ, i64_w, i32_w]
                            rfl
                          refine pure_ (i := 26) (N := some 40) (v := ?_) (a' := ?_) #[true, true, true, true, true, true, true, true, true, true, true, true, true, true, true, true, true, true, true, true, true, true, true, true, true, true, true, false, false, false, false, false] rfl rfl (any_of HT_.out (by kernel_rfl)) (fun _ _ _ h => h) (Or.inl ⟨by rfl, ?_⟩) ?_ ?_
                          rotate_left
                          · intro w'
                            go_simp
                            with_reducible rfl
                          rotate_left
                          · simp only [Act.put, List.setIfInBounds_toArray, List.set_cons_zero, List.set_cons_succ, i64_w, i32_w]
                            rfl
                          refine pure_ (i := 27) (N := some 41) (v := ?_) (a' := ?_) #[true, true, true, true, true, true, true, true, true, true, true, true, true, true, true, true, true, true, true, true, true, true, true, true, true, true, true, true, false, false, false, false] rfl rfl (any_of HT_.out (by kernel_rfl)) (fun _ _ _ h => h) (Or.inl ⟨by rfl, ?_⟩) ?_ ?_
                          rotate_left
                          · intro w'
                            go_simp
                            with_reducible rfl
                          rotate_left
                          · simp only [Act.put, List.setIfInBounds_toArray, List.set_cons_zero, List.set_cons_succ, i64_w, i32_w]
                            rfl
                          refine pure_ (i := 28) (N := some 42) (v := ?_) (a' := ?_) #[true, true, true, true, true, true, true, true, true, true, true, true, true, true, true, true, true, true, true, true, true, true, true, true, true, true, true, true, true, false, false, false] rfl rfl (any_of HT_.out (by kernel_rfl)) (fun _ _ _ h => h) (Or.inl ⟨by rfl, ?_⟩) ?_ ?_
                          rotate_left
                          · intro w'
                            go_simp
                            with_reducible rfl
                          rotate_left
                          · simp only [Act.put, List.setIfInBounds_toArray, List.set_cons_zero, List.set_cons_succ, i64_w, i32_w]
                            rfl
                          refine take_ (i := 29) (N := some 43) (v := ?_) (a' := ?_) #[true, true, true, true, true, true, true, true, true, true, true, true, true, true, true, true, true, true, true, true, true, true, true, true, true, true, true, true, true, true, false, false] rfl rfl (take_ofW HT_.out HW_.out (by kernel_rfl)) (fun _ _ _ h => h) (Or.inl ⟨by rfl, ?_⟩) hHeld ?_ ?_
                          rotate_left
                          · rintro w' ⟨s0, s1, s2, s3, s4, s5, s6, s7, s8, s9, s10, s11, s12, s13, s14, s15, s16, s17, s18, s19⟩
                            go_simp
                            with_reducible rfl
                          rotate_left
                          · simp only [Act.put, List.setIfInBounds_toArray, List.set_cons_zero, List.set_cons_succ, i64_w, i32_w]
                            rfl
                          refine one_ (i := 30) (N := some 44) #[true, true, true, true, true, true, true, true, true, true, true, true, true, true, true, true, true, true, true, true, true, true, true, true, true, true, true, true, true, true, true, false] rfl rfl (one_of HT_.out (by kernel_rfl)) (by decide) (fun K hK => ?_)
                          refine goes_ Try.func102 (by kernel_rfl) rfl #[.slice (some ad217) y221.length c0, .agg #[.int .i64 ((rd_T34 l0 x3_1).f0), .string ((rd_T34 l0 x3_1).f1), .int .i64 ((rd_T34 l0 x3_1).f2), .slice A217_3 ((rd_T34 l0 x3_1).f3).length c217_3, .slice A217_4 ((rd_T34 l0 x3_1).f4).length c217_4]] (by rfl) rfl rfl (by (try simp only [List.map_toArray, List.map_cons, List.map_nil]); first | done | rfl | (simp only [List.length_drop, List.length_take]; rfl)) ?_
                          with_reducible refine (spec_l4In.calls kj1 _ _ y221 ((rd_T34 l0 x3_1).f0) ((rd_T34 l0 x3_1).f1) ((rd_T34 l0 x3_1).f2) _ _ ((rd_T34 l0 x3_1).f3) _ _ ((rd_T34 l0 x3_1).f4) false _ ?side1 ?side2 ?side3 ?side4 ?side5 ?side6 A17.out).mono ?_
                          (case side1 => repeat (first | exact (Kd.C_below HR224.out HB.out) | (with_reducible refine Kd.C_alloc ?_ _) | (with_reducible refine Kd.C_drewN ?_ _) | (with_reducible refine Kd.C_drew ?_)))
                          (case side2 => exact HC224.out)
                          (case side3 => repeat (first | exact (Kd.C_below HR217_3.out HB.out) | (with_reducible refine Kd.C_alloc ?_ _) | (with_reducible refine Kd.C_drewN ?_ _) | (with_reducible refine Kd.C_drew ?_)))
                          (case side4 => exact HC217_3.out)
                          (case side5 => repeat (first | exact (Kd.C_below HR217_4.out HB.out) | (with_reducible refine Kd.C_alloc ?_ _) | (with_reducible refine Kd.C_drewN ?_ _) | (with_reducible refine Kd.C_drew ?_)))
                          (case side6 => exact HC217_4.out)
                          rintro e w26 ⟨rfl, hb⟩
                          refine ⟨_, rfl, ?_⟩
                          have n0_ := Aside0.mk (below_step (by repeat (first | (with_reducible first | exact HB.out | apply below_alloc | apply pw_below_drewN | apply below_drew1) | exact HB.out)) hb)
                          clear HB
                          have HB := n0_
                          clear n0_
                          (try clear hb)
                          (try clear hb2)
                          (try clear hk)
                          (try clear hi)
                          refine hK.out _ _ ⟨((HB.out.cell (World.block_lt_of_cell? w _ hw217_0)).trans hw217_0), ((HB.out.cell (World.block_lt_of_cell? w _ hw217_1)).trans hw217_1), ((HB.out.cell (World.block_lt_of_cell? w _ hw217_2)).trans hw217_2), ((HB.out.cell (World.block_lt_of_cell? w _ hw217_3)).trans hw217_3), ((HB.out.cell (World.block_lt_of_cell? w _ hw217_4)).trans hw217_4), ((HB.out.cell (World.block_lt_of_cell? w _ hw219_0)).trans hw219_0), ((HB.out.cell (World.block_lt_of_cell? w _ hw219_1)).trans hw219_1), ((HB.out.cell (World.block_lt_of_cell? w _ hw219_2)).trans hw219_2), ((HB.out.cell (World.block_lt_of_cell? w _ hw219_3)).trans hw219_3), ((HB.out.cell (World.block_lt_of_cell? w _ hw219_4)).trans hw219_4), ((HB.out.cell (World.block_lt_of_cell? w _ hw220_0)).trans hw220_0), ((HB.out.cell (World.block_lt_of_cell? w _ hw220_1)).trans hw220_1), ((HB.out.cell (World.block_lt_of_cell? w _ hw220_2)).trans hw220_2), ((HB.out.cell (World.block_lt_of_cell? w _ hw220_3)).trans hw220_3), ((HB.out.cell (World.block_lt_of_cell? w _ hw220_4)).trans hw220_4), ((HB.out.cell (World.block_lt_of_cell? w _ hw225_0)).trans hw225_0), ((HB.out.cell (World.block_lt_of_cell? w _ hw225_1)).trans hw225_1), ((HB.out.cell (World.block_lt_of_cell? w _ hw225_2)).trans hw225_2), ((HB.out.cell (World.block_lt_of_cell? w _ hw225_3)).trans hw225_3), ((HB.out.cell (World.block_lt_of_cell? w _ hw225_4)).trans hw225_4)⟩ (fun hHeld => ?_)
                          clear hK K
                          refine norm_ (a' := ?_) ?_ ?_
                          rotate_left
                          · show Act.put _ (some 44) _ = _
                            simp only [Act.put, List.setIfInBounds_toArray, List.set_cons_zero, List.set_cons_succ, i64_w, i32_w]
                            rfl
                          refine pure_ (i := 31) (N := some 45) (v := ?_) (a' := ?_) #[true, true, true, true, true, true, true, true, true, true, true, true, true, true, true, true, true, true, true, true, true, true, true, true, true, true, true, true, true, true, true, true] rfl rfl (any_of HT_.out (by kernel_rfl)) (fun _ _ _ h => h) (Or.inl ⟨by rfl, ?_⟩) ?_ ?_
                          rotate_left
                          · intro w'
                            go_simp
                            with_reducible rfl
                          rotate_left
                          · simp only [Act.put, List.setIfInBounds_toArray, List.set_cons_zero, List.set_cons_succ, i64_w, i32_w]
                            rfl
                          refine done_ (done_of HT_.out (by kernel_rfl)) ?_
                          try go_wp2
                          go_roundg kj1
                          case measure => have := HK1.out; have := HJ1.out; omega
                          case rel => exact ⟨(wrap64 (x3_1 + 1)), (by first | rfl | (simp; done) | (simp [*]; done)), H', ⟨by have := HK1.out; have := HJ1.out; omega⟩, ⟨by repeat (first | (with_reducible first | exact HB.out | apply below_alloc | apply pw_below_drewN | apply below_drew1) | exact HB.out)⟩⟩
                      · rw [if_neg c16] at H
                        exact absurd H (by simp)
                · replace c8 := Bool.eq_false_iff.mpr c8
                  subst c8
                  have H1 : (some false) = some r := by rw [if_neg (show ¬ (false = true) by decide)] at H; exact H
                  clear H
                  have H := H1
                  clear H1
                  obtain rfl := Option.some.inj H
                  try go_wp2
                  have n0_ := Aside0.mk (below_drew1 HB.out)
                  clear HB
                  have HB := n0_
                  clear n0_
                  have p217 : 0 ≤ (x3_1 : Int) := of_decide_eq_true (by first | (with_reducible assumption) | assumption)
                  have q217 : x3_1 < (l0.length : Int) := of_decide_eq_true (by first | (with_reducible assumption) | assumption)
                  obtain ⟨ad217, A217_3, c217_3, A217_4, c217_4, e217, hx217_0, hx217_1, hx217_2, hx217_3, hx217_4, hl217_3, hi217_3, hl217_4, hi217_4⟩ := at_T34 HR0.out x3_1 p217 q217
                  have hw217_4 := hx217_4
                  have hw217_3 := hx217_3
                  have hw217_2 := hx217_2
                  have hw217_1 := hx217_1
                  have hw217_0 := hx217_0
                  cases e217
                  replace hx217_0 := (HB.out.cell (World.block_lt_of_cell? w _ hx217_0)).trans hx217_0
                  replace hx217_1 := (HB.out.cell (World.block_lt_of_cell? w _ hx217_1)).trans hx217_1
                  replace hx217_2 := (HB.out.cell (World.block_lt_of_cell? w _ hx217_2)).trans hx217_2
                  replace hx217_3 := (HB.out.cell (World.block_lt_of_cell? w _ hx217_3)).trans hx217_3
                  replace hx217_4 := (HB.out.cell (World.block_lt_of_cell? w _ hx217_4)).trans hx217_4
                  have HR217_3 := Aside0.mk hi217_3
                  have HC217_3 := Aside0.mk hl217_3
                  clear hi217_3 hl217_3
                  have HR217_4 := Aside0.mk hi217_4
                  have HC217_4 := Aside0.mk hl217_4
                  clear hi217_4 hl217_4
                  replace p217 := eq_true p217
                  replace q217 := eq_true q217
                  refine start_ (n := 32) (S := fun w' => w'.cell? (ad217.add ((x3_1).toNat * 5)) = some (.int .i64 ((rd_T34 l0 x3_1).f0)) ∧ w'.cell? ⟨(ad217.add ((x3_1).toNat * 5)).block, (ad217.add ((x3_1).toNat * 5)).off + 1, none⟩ = some (.string ((rd_T34 l0 x3_1).f1)) ∧ w'.cell? ⟨(ad217.add ((x3_1).toNat * 5)).block, (ad217.add ((x3_1).toNat * 5)).off + 2, none⟩ = some (.int .i64 ((rd_T34 l0 x3_1).f2)) ∧ w'.cell? ⟨(ad217.add ((x3_1).toNat * 5)).block, (ad217.add ((x3_1).toNat * 5)).off + 3, none⟩ = some (.slice A217_3 ((rd_T34 l0 x3_1).f3).length c217_3) ∧ w'.cell? ⟨(ad217.add ((x3_1).toNat * 5)).block, (ad217.add ((x3_1).toNat * 5)).off + 4, none⟩ = some (.slice A217_4 ((rd_T34 l0 x3_1).f4).length c217_4)) (ds := []) #[false, false, false, false, false, false, false, false, false, false, false, false, false, false, false, false, false, false, false, false, false, false, false, false, false, false, false, false, false, false, false, false] (by kernel_rfl) rfl rfl ⟨((HB.out.cell (World.block_lt_of_cell? w _ hw217_0)).trans hw217_0), ((HB.out.cell (World.block_lt_of_cell? w _ hw217_1)).trans hw217_1), ((HB.out.cell (World.block_lt_of_cell? w _ hw217_2)).trans hw217_2), ((HB.out.cell (World.block_lt_of_cell? w _ hw217_3)).trans hw217_3), ((HB.out.cell (World.block_lt_of_cell? w _ hw217_4)).trans hw217_4)⟩ (fun hHeld => ?_); refine with_tabW spec_l4Literals.tab4 spec_l4Literals.bits4 (fun HT_ HW_ => ?_)
                  generalize wc.drew = w27 at HB HR217_3 HR217_4 hx217_0 hx217_1 hx217_2 hx217_3 hx217_4 hHeld ⊢
                  refine pure_ (i := 0) (N := some 14) (v := ?_) (a' := ?_) #[true, false, false, false, false, false, false, false, false, false, false, false, false, false, false, false, false, false, false, false, false, false, false, false, false, false, false, false, false, false, false, false] rfl rfl (any_of HT_.out (by kernel_rfl)) (fun _ _ _ h => h) (Or.inl ⟨by rfl, ?_⟩) ?_ ?_
                  rotate_left
                  · intro w'
                    go_simp
                    with_reducible rfl
                  rotate_left
                  · simp only [Act.put, List.setIfInBounds_toArray, List.set_cons_zero, List.set_cons_succ, i64_w, i32_w]
                    rfl
                  refine pure_ (i := 1) (N := some 15) (v := ?_) (a' := ?_) #[true, true, false, false, false, false, false, false, false, false, false, false, false, false, false, false, false, false, false, false, false, false, false, false, false, false, false, false, false, false, false, false] rfl rfl (any_of HT_.out (by kernel_rfl)) (fun _ _ _ h => h) (Or.inl ⟨by rfl, ?_⟩) ?_ ?_
                  rotate_left
                  · intro w'
                    go_simp
                    with_reducible rfl
                  rotate_left
                  · simp only [Act.put, List.setIfInBounds_toArray, List.set_cons_zero, List.set_cons_succ, i64_w, i32_w]
                    rfl
                  refine pure_ (i := 2) (N := some 16) (v := ?_) (a' := ?_) #[true, true, true, false, false, false, false, false, false, false, false, false, false, false, false, false, false, false, false, false, false, false, false, false, false, false, false, false, false, false, false, false] rfl rfl (any_of HT_.out (by kernel_rfl)) (fun _ _ _ h => h) (Or.inl ⟨by rfl, ?_⟩) ?_ ?_
                  rotate_left
                  · intro w'
                    go_simp
                    with_reducible rfl
                  rotate_left
                  · simp only [Act.put, List.setIfInBounds_toArray, List.set_cons_zero, List.set_cons_succ, i64_w, i32_w]
                    rfl
                  refine take_ (i := 3) (N := some 17) (v := ?_) (a' := ?_) #[true, true, true, true, false, false, false, false, false, false, false, false, false, false, false, false, false, false, false, false, false, false, false, false, false, false, false, false, false, false, false, false] rfl rfl (take_ofW HT_.out HW_.out (by kernel_rfl)) (fun _ _ _ h => h) (Or.inl ⟨by rfl, ?_⟩) hHeld ?_ ?_
                  rotate_left
                  · rintro w' ⟨s0, s1, s2, s3, s4⟩
                    go_simp
                    with_reducible rfl
                  rotate_left
                  · simp only [Act.put, List.setIfInBounds_toArray, List.set_cons_zero, List.set_cons_succ, i64_w, i32_w]
                    rfl
                  refine one_ (i := 4) (N := some 18) #[true, true, true, true, true, false, false, false, false, false, false, false, false, false, false, false, false, false, false, false, false, false, false, false, false, false, false, false, false, false, false, false] rfl rfl (one_of HT_.out (by kernel_rfl)) (by decide) (fun K hK => ?_)
                  refine goes_ Try.func46 (by kernel_rfl) rfl #[.agg #[.int .i64 ((rd_T34 l0 x3_1).f0), .string ((rd_T34 l0 x3_1).f1), .int .i64 ((rd_T34 l0 x3_1).f2), .slice A217_3 ((rd_T34 l0 x3_1).f3).length c217_3, .slice A217_4 ((rd_T34 l0 x3_1).f4).length c217_4]] (by rfl) rfl rfl (by (try simp only [List.map_toArray, List.map_cons, List.map_nil]); first | done | rfl | (simp only [List.length_drop, List.length_take]; rfl)) ?_
                  with_reducible refine (spec_l3Is.calls ((rd_T34 l0 x3_1).f0) ((rd_T34 l0 x3_1).f1) ((rd_T34 l0 x3_1).f2) _ _ ((rd_T34 l0 x3_1).f3) _ _ ((rd_T34 l0 x3_1).f4) false _ ?side1 ?side2 ?side3 ?side4 A7.out).mono ?_
                  (case side1 => repeat (first | exact (Kd.C_below HR217_3.out HB.out) | (with_reducible refine Kd.C_alloc ?_ _) | (with_reducible refine Kd.C_drewN ?_ _) | (with_reducible refine Kd.C_drew ?_)))
                  (case side2 => exact HC217_3.out)
                  (case side3 => repeat (first | exact (Kd.C_below HR217_4.out HB.out) | (with_reducible refine Kd.C_alloc ?_ _) | (with_reducible refine Kd.C_drewN ?_ _) | (with_reducible refine Kd.C_drew ?_)))
                  (case side4 => exact HC217_4.out)
                  rintro e w28 ⟨rfl, hb⟩
                  refine ⟨_, rfl, ?_⟩
                  have n0_ := Aside0.mk (below_step (by repeat (first | (with_reducible first | exact HB.out | apply below_alloc | apply pw_below_drewN | apply below_drew1) | exact HB.out)) hb)
                  clear HB
                  have HB := n0_
                  clear n0_
                  (try clear hb)
                  (try clear hb2)
                  (try clear hk)
                  (try clear hi)
                  refine hK.out _ _ ⟨((HB.out.cell (World.block_lt_of_cell? w _ hw217_0)).trans hw217_0), ((HB.out.cell (World.block_lt_of_cell? w _ hw217_1)).trans hw217_1), ((HB.out.cell (World.block_lt_of_cell? w _ hw217_2)).trans hw217_2), ((HB.out.cell (World.block_lt_of_cell? w _ hw217_3)).trans hw217_3), ((HB.out.cell (World.block_lt_of_cell? w _ hw217_4)).trans hw217_4)⟩ (fun hHeld => ?_)
                  clear hK K
                  refine norm_ (a' := ?_) ?_ ?_
                  rotate_left
                  · show Act.put _ (some 18) _ = _
                    simp only [Act.put, List.setIfInBounds_toArray, List.set_cons_zero, List.set_cons_succ, i64_w, i32_w]
                    rfl
                  refine pure_ (i := 5) (N := some 19) (v := ?_) (a' := ?_) #[true, true, true, true, true, true, false, false, false, false, false, false, false, false, false, false, false, false, false, false, false, false, false, false, false, false, false, false, false, false, false, false] rfl rfl (any_of HT_.out (by kernel_rfl)) (fun _ _ _ h => h) (Or.inl ⟨by rfl, ?_⟩) ?_ ?_
                  rotate_left
                  · intro w'
                    go_simp
                    with_reducible rfl
                  rotate_left
                  · simp only [Act.put, List.setIfInBounds_toArray, List.set_cons_zero, List.set_cons_succ, i64_w, i32_w]
                    rfl
                  refine pure_ (i := 6) (N := some 20) (v := ?_) (a' := ?_) #[true, true, true, true, true, true, true, false, false, false, false, false, false, false, false, false, false, false, false, false, false, false, false, false, false, false, false, false, false, false, false, false] rfl rfl (any_of HT_.out (by kernel_rfl)) (fun _ _ _ h => h) (Or.inl ⟨by rfl, ?_⟩) ?_ ?_
                  rotate_left
                  · intro w'
                    go_simp
                    with_reducible rfl
                  rotate_left
                  · simp only [Act.put, List.setIfInBounds_toArray, List.set_cons_zero, List.set_cons_succ, i64_w, i32_w]
                    rfl
                  refine pure_ (i := 7) (N := some 21) (v := undef) (a' := ?_) #[true, true, true, true, true, true, true, true, false, false, false, false, false, false, false, false, false, false, false, false, false, false, false, false, false, false, false, false, false, false, false, false] rfl rfl (any_of HT_.out (by kernel_rfl)) (fun _ _ _ h => h) (Or.inr ⟨by rfl, rfl⟩) ?_ ?_
                  rotate_left
                  · simp only [Act.put, List.setIfInBounds_toArray, List.set_cons_zero, List.set_cons_succ, i64_w, i32_w]
                    rfl
                  refine pure_ (i := 8) (N := some 22) (v := undef) (a' := ?_) #[true, true, true, true, true, true, true, true, true, false, false, false, false, false, false, false, false, false, false, false, false, false, false, false, false, false, false, false, false, false, false, false] rfl rfl (any_of HT_.out (by kernel_rfl)) (fun _ _ _ h => h) (Or.inr ⟨by rfl, rfl⟩) ?_ ?_
                  rotate_left
                  · simp only [Act.put, List.setIfInBounds_toArray, List.set_cons_zero, List.set_cons_succ, i64_w, i32_w]
                    rfl
                  refine pure_ (i := 9) (N := some 23) (v := undef) (a' := ?_) #[true, true, true, true, true, true, true, true, true, true, false, false, false, false, false, false, false, false, false, false, false, false, false, false, false, false, false, false, false, false, false, false] rfl rfl (any_of HT_.out (by kernel_rfl)) (fun _ _ _ h => h) (Or.inr ⟨by rfl, rfl⟩) ?_ ?_
                  rotate_left
                  · simp only [Act.put, List.setIfInBounds_toArray, List.set_cons_zero, List.set_cons_succ, i64_w, i32_w]
                    rfl
                  refine pure_ (i := 10) (N := some 24) (v := undef) (a' := ?_) #[true, true, true, true, true, true, true, true, true, true, true, false, false, false, false, false, false, false, false, false, false, false, false, false, false, false, false, false, false, false, false, false] rfl rfl (any_of HT_.out (by kernel_rfl)) (fun _ _ _ h => h) (Or.inr ⟨by rfl, rfl⟩) ?_ ?_
                  rotate_left
                  · simp only [Act.put, List.setIfInBounds_toArray, List.set_cons_zero, List.set_cons_succ, i64_w, i32_w]
                    rfl
                  refine pure_ (i := 11) (N := some 25) (v := undef) (a' := ?_) #[true, true, true, true, true, true, true, true, true, true, true, true, false, false, false, false, false, false, false, false, false, false, false, false, false, false, false, false, false, false, false, false] rfl rfl (any_of HT_.out (by kernel_rfl)) (fun _ _ _ h => h) (Or.inr ⟨by rfl, rfl⟩) ?_ ?_
                  rotate_left
                  · simp only [Act.put, List.setIfInBounds_toArray, List.set_cons_zero, List.set_cons_succ, i64_w, i32_w]
                    rfl
                  refine pure_ (i := 12) (N := some 26) (v := undef) (a' := ?_) #[true, true, true, true, true, true, true, true, true, true, true, true, true, false, false, false, false, false, false, false, false, false, false, false, false, false, false, false, false, false, false, false] rfl rfl (any_of HT_.out (by kernel_rfl)) (fun _ _ _ h => h) (Or.inr ⟨by rfl, rfl⟩) ?_ ?_
                  rotate_left
                  · simp only [Act.put, List.setIfInBounds_toArray, List.set_cons_zero, List.set_cons_succ, i64_w, i32_w]
                    rfl
                  refine pure_ (i := 13) (N := some 27) (v := ?_) (a' := ?_) #[true, true, true, true, true, true, true, true, true, true, true, true, true, true, false, false, false, false, false, false, false, false, false, false, false, false, false, false, false, false, false, false] rfl rfl (any_of HT_.out (by kernel_rfl)) (fun _ _ _ h => h) (Or.inl ⟨by rfl, ?_⟩) ?_ ?_
                  rotate_left
                  · intro w'
                    go_simp
                    with_reducible rfl
                  rotate_left
                  · simp only [Act.put, List.setIfInBounds_toArray, List.set_cons_zero, List.set_cons_succ, i64_w, i32_w]
                    rfl
                  refine pure_ (i := 14) (N := some 28) (v := ?_) (a' := ?_) #[true, true, true, true, true, true, true, true, true, true, true, true, true, true, true, false, false, false, false, false, false, false, false, false, false, false, false, false, false, false, false, false] rfl rfl (any_of HT_.out (by kernel_rfl)) (fun _ _ _ h => h) (Or.inl ⟨by rfl, ?_⟩) ?_ ?_
                  rotate_left
                  · intro w'
                    go_simp
                    with_reducible rfl
                  rotate_left
                  · simp only [Act.put, List.setIfInBounds_toArray, List.set_cons_zero, List.set_cons_succ, i64_w, i32_w]
                    rfl
                  refine pure_ (i := 15) (N := some 29) (v := undef) (a' := ?_) #[true, true, true, true, true, true, true, true, true, true, true, true, true, true, true, true, false, false, false, false, false, false, false, false, false, false, false, false, false, false, false, false] rfl rfl (any_of HT_.out (by kernel_rfl)) (fun _ _ _ h => h) (Or.inr ⟨by rfl, rfl⟩) ?_ ?_
                  rotate_left
                  · simp only [Act.put, List.setIfInBounds_toArray, List.set_cons_zero, List.set_cons_succ, i64_w, i32_w]
                    rfl
                  refine pure_ (i := 16) (N := some 30) (v := undef) (a' := ?_) #[true, true, true, true, true, true, true, true, true, true, true, true, true, true, true, true, true, false, false, false, false, false, false, false, false, false, false, false, false, false, false, false] rfl rfl (any_of HT_.out (by kernel_rfl)) (fun _ _ _ h => h) (Or.inr ⟨by rfl, rfl⟩) ?_ ?_
                  rotate_left
                  · simp only [Act.put, List.setIfInBounds_toArray, List.set_cons_zero, List.set_cons_succ, i64_w, i32_w]
                    rfl
                  refine pure_ (i := 17) (N := some 31) (v := undef) (a' := ?_) #[true, true, true, true, true, true, true, true, true, true, true, true, true, true, true, true, true, true, false, false, false, false, false, false, false, false, false, false, false, false, false, false] rfl rfl (any_of HT_.out (by kernel_rfl)) (fun _ _ _ h => h) (Or.inr ⟨by rfl, rfl⟩) ?_ ?_
                  rotate_left
                  · simp only [Act.put, List.setIfInBounds_toArray, List.set_cons_zero, List.set_cons_succ, i64_w, i32_w]
                    rfl
                  refine pure_ (i := 18) (N := some 32) (v := undef) (a' := ?_) #[true, true, true, true, true, true, true, true, true, true, true, true, true, true, true, true, true, true, true, false, false, false, false, false, false, false, false, false, false, false, false, false] rfl rfl (any_of HT_.out (by kernel_rfl)) (fun _ _ _ h => h) (Or.inr ⟨by rfl, rfl⟩) ?_ ?_
                  rotate_left
                  · simp only [Act.put, List.setIfInBounds_toArray, List.set_cons_zero, List.set_cons_succ, i64_w, i32_w]
                    rfl
                  refine pure_ (i := 19) (N := some 33) (v := undef) (a' := ?_) #[true, true, true, true, true, true, true, true, true, true, true, true, true, true, true, true, true, true, true, true, false, false, false, false, false, false, false, false, false, false, false, false] rfl rfl (any_of HT_.out (by kernel_rfl)) (fun _ _ _ h => h) (Or.inr ⟨by rfl, rfl⟩) ?_ ?_
                  rotate_left
                  · simp only [Act.put, List.setIfInBounds_toArray, List.set_cons_zero, List.set_cons_succ, i64_w, i32_w]
                    rfl
                  refine pure_ (i := 20) (N := some 34) (v := undef) (a' := ?_) #[true, true, true, true, true, true, true, true, true, true, true, true, true, true, true, true, true, true, true, true, true, false, false, false, false, false, false, false, false, false, false, false] rfl rfl (any_of HT_.out (by kernel_rfl)) (fun _ _ _ h => h) (Or.inr ⟨by rfl, rfl⟩) ?_ ?_
                  rotate_left
                  · simp only [Act.put, List.setIfInBounds_toArray, List.set_cons_zero, List.set_cons_succ, i64_w, i32_w]
                    rfl
                  refine pure_ (i := 21) (N := some 35) (v := ?_) (a' := ?_) #[true, true, true, true, true, true, true, true, true, true, true, true, true, true, true, true, true, true, true, true, true, true, false, false, false, false, false, false, false, false, false, false] rfl rfl (any_of HT_.out (by kernel_rfl)) (fun _ _ _ h => h) (Or.inl ⟨by rfl, ?_⟩) ?_ ?_
                  rotate_left
                  · intro w'
                    go_simp
                    with_reducible rfl
                  rotate_left
                  · simp only [Act.put, List.setIfInBounds_toArray, List.set_cons_zero, List.set_cons_succ, i64_w, i32_w]
                    rfl
                  refine pure_ (i := 22) (N := some 36) (v := ?_) (a' := ?_) #[true, true, true, true, true, true, true, true, true, true, true, true, true, true, true, true, true, true, true, true, true, true, true, false, false, false, false, false, false, false, false, false] rfl rfl (any_of HT_.out (by kernel_rfl)) (fun _ _ _ h => h) (Or.inl ⟨by rfl, ?_⟩) ?_ ?_
                  rotate_left
                  · intro w'
                    go_simp
                    with_reducible rfl
                  rotate_left
                  · simp only [Act.put, List.setIfInBounds_toArray, List.set_cons_zero, List.set_cons_succ, i64_w, i32_w]
                    rfl
                  refine pure_ (i := 23) (N := some 37) (v := undef) (a' := ?_) #[true, true, true, true, true, true, true, true, true, true, true, true, true, true, true, true, true, true, true, true, true, true, true, true, false, false, false, false, false, false, false, false] rfl rfl (any_of HT_.out (by kernel_rfl)) (fun _ _ _ h => h) (Or.inr ⟨by rfl, rfl⟩) ?_ ?_
                  rotate_left
                  · simp only [Act.put, List.setIfInBounds_toArray, List.set_cons_zero, List.set_cons_succ, i64_w, i32_w]
                    rfl
                  refine pure_ (i := 24) (N := some 38) (v := undef) (a' := ?_) #[true, true, true, true, true, true, true, true, true, true, true, true, true, true, true, true, true, true, true, true, true, true, true, true, true, false, false, false, false, false, false, false] rfl rfl (any_of HT_.out (by kernel_rfl)) (fun _ _ _ h => h) (Or.inr ⟨by rfl, rfl⟩) ?_ ?_
                  rotate_left
                  · simp only [Act.put, List.setIfInBounds_toArray, List.set_cons_zero, List.set_cons_succ, i64_w, i32_w]
                    rfl
                  refine pure_ (i := 25) (N := some 39) (v := undef) (a' := ?_) #[true, true, true, true, true, true, true, true, true, true, true, true, true, true, true, true, true, true, true, true, true, true, true, true, true, true, false, false, false, false, false, false] rfl rfl (any_of HT_.out (by kernel_rfl)) (fun _ _ _ h => h) (Or.inr ⟨by rfl, rfl⟩) ?_ ?_
                  rotate_left
                  · simp only [Act.put, List.setIfInBounds_toArray, List.set_cons_zero, List.set_cons_succ, i64_w, i32_w]
                    rfl
                  refine pure_ (i := 26) (N := some 40) (v := undef) (a' := ?_) #[true, true, true, true, true, true, true, true, true, true, true, true, true, true, true, true, true, true, true, true, true, true, true, true, true, true, true, false, false, false, false, false] rfl rfl (any_of HT_.out (by kernel_rfl)) (fun _ _ _ h => h) (Or.inr ⟨by rfl, rfl⟩) ?_ ?_
                  rotate_left
                  · simp only [Act.put, List.setIfInBounds_toArray, List.set_cons_zero, List.set_cons_succ, i64_w, i32_w]
                    rfl
                  refine pure_ (i := 27) (N := some 41) (v := undef) (a' := ?_) #[true, true, true, true, true, true, true, true, true, true, true, true, true, true, true, true, true, true, true, true, true, true, true, true, true, true, true, true, false, false, false, false] rfl rfl (any_of HT_.out (by kernel_rfl)) (fun _ _ _ h => h) (Or.inr ⟨by rfl, rfl⟩) ?_ ?_
                  rotate_left
                  · simp only [Act.put, List.setIfInBounds_toArray, List.set_cons_zero, List.set_cons_succ, i64_w, i32_w]
                    rfl
                  refine pure_ (i := 28) (N := some 42) (v := undef) (a' := ?_) #[true, true, true, true, true, true, true, true, true, true, true, true, true, true, true, true, true, true, true, true, true, true, true, true, true, true, true, true, true, false, false, false] rfl rfl (any_of HT_.out (by kernel_rfl)) (fun _ _ _ h => h) (Or.inr ⟨by rfl, rfl⟩) ?_ ?_
                  rotate_left
                  · simp only [Act.put, List.setIfInBounds_toArray, List.set_cons_zero, List.set_cons_succ, i64_w, i32_w]
                    rfl
                  refine pure_ (i := 29) (N := some 43) (v := undef) (a' := ?_) #[true, true, true, true, true, true, true, true, true, true, true, true, true, true, true, true, true, true, true, true, true, true, true, true, true, true, true, true, true, true, false, false] rfl rfl (any_of HT_.out (by kernel_rfl)) (fun _ _ _ h => h) (Or.inr ⟨by rfl, rfl⟩) ?_ ?_
                  rotate_left
                  · simp only [Act.put, List.setIfInBounds_toArray, List.set_cons_zero, List.set_cons_succ, i64_w, i32_w]
                    rfl
                  refine pure_ (i := 30) (N := some 44) (v := undef) (a' := ?_) #[true, true, true, true, true, true, true, true, true, true, true, true, true, true, true, true, true, true, true, true, true, true, true, true, true, true, true, true, true, true, true, false] rfl rfl (any_of HT_.out (by kernel_rfl)) (fun _ _ _ h => h) (Or.inr ⟨by rfl, rfl⟩) ?_ ?_
                  rotate_left
                  · simp only [Act.put, List.setIfInBounds_toArray, List.set_cons_zero, List.set_cons_succ, i64_w, i32_w]
                    rfl
                  refine pure_ (i := 31) (N := some 45) (v := ?_) (a' := ?_) #[true, true, true, true, true, true, true, true, true, true, true, true, true, true, true, true, true, true, true, true, true, true, true, true, true, true, true, true, true, true, true, true] rfl rfl (any_of HT_.out (by kernel_rfl)) (fun _ _ _ h => h) (Or.inl ⟨by rfl, ?_⟩) ?_ ?_
                  rotate_left
                  · intro w'
                    go_simp
                    with_reducible rfl
                  rotate_left
                  · simp only [Act.put, List.setIfInBounds_toArray, List.set_cons_zero, List.set_cons_succ, i64_w, i32_w]
                    rfl
                  refine done_ (done_of HT_.out (by kernel_rfl)) ?_
                  try go_wp2
                  go_ret
                  exact ⟨by first | rfl | (simp [errW_none, errW_some] <;> rfl) | (simp [*, errW_none, errW_some] <;> rfl), by repeat (first | (with_reducible first | exact HB.out | apply below_alloc | apply pw_below_drewN | apply below_drew1) | exact HB.out)⟩
              · rw [if_neg c6] at H
                exact absurd H (by simp)
            · rw [if_neg c5] at H
              exact absurd H (by simp)
          · replace c4 := Bool.eq_false_iff.mpr c4
            subst c4
            have H1 : (some (decide ((l0.length : Int) < 10))) = some r := by rw [if_neg (show ¬ (false = true) by decide)] at H; exact H
            clear H
            have H := H1
            clear H1
            obtain rfl := Option.some.inj H
            go_wp2
            go_ret
            exact ⟨by first | rfl | (simp [errW_none, errW_some] <;> rfl) | (simp [*, errW_none, errW_some] <;> rfl), by repeat (first | (with_reducible first | exact HB.out | apply below_alloc | apply pw_below_drewN | apply below_drew1) | exact HB.out)⟩

end Go.Proofs.Ytlklclebjeeaaaa.Q
end
section
namespace Go.Proofs.Ytlklclebjeeaaaa
open Go.RowKit Go.Proofs.YtlklclebjeeaaaaW.PrintWords
set_option linter.unusedVariables false
set_option linter.unusedSimpArgs false
section
open Go.Proofs.Ytlklclebjeeaaaa.Q
theorem fs_eq2 (x y : Fm) : spec_FormSame.f x.f0 x.f1 x.f2 x.f3 x.f4 y.f0 y.f1 y.f2 y.f3 y.f4 = some (eqB x y) := by cases x; cases y; rfl
theorem l3_eq2 {x : Fm} (hx : x.tot ≤ 1048576) : spec_l3Is.f x.f0 x.f1 x.f2 x.f3 x.f4 = some (pB (IsName x)) := by
  unfold spec_l3Is.f
  by_cases h : x.f0 = 1
  · rw [if_pos h, show spec_FormValid.f x.f0 x.f1 x.f2 x.f3 x.f4 = some (pB (FmOk x)) from by cases x; exact gIf_yes hx _]
    show some (pB (FmOk x)) = _
    congr 1
    by_cases hv : FmOk x
    · rw [pB_iff.2 hv, pB_iff.2 ⟨h, hv⟩]
    · rw [← pB_no hv, ← pB_no (fun k : IsName x => hv k.2)]
  · rw [if_neg h, ← pB_no (fun k : IsName x => h k.1)]
theorem ev_l4Dots (x : Fm) : spec_l4Dots.f x.f0 x.f1 x.f2 x.f3 x.f4 = some (dotsB x) := by
  unfold spec_l4Dots.f dotsB
  by_cases h : x.f0 = 1
  · rw [if_pos h, show (x.f0 == 1) = true from by simpa using h, Bool.true_and]
  · rw [if_neg h, show (x.f0 == 1) = false from by simpa using h, Bool.false_and]
theorem ev_l4In (l : List Fm) (x : Fm) (hl : l.length ≤ 2000000) : Ev (fun k => spec_l4In.f k l x.f0 x.f1 x.f2 x.f3 x.f4) (l.any (fun a => eqB a x)) := by
  unfold spec_l4In.f
  have key := ev_all (L := fun k i => spec_l4In.l0 k l ((i : Nat) : Int) x.f0 x.f1 x.f2 x.f3 x.f4) (fun i => ∀ h : i < l.length, eqB l[i] x = false) l.length false true ?_ ?_ ?_
  · by_cases hall : ∀ i, i < l.length → ∀ h : i < l.length, eqB l[i] x = false
    · rw [show l.any (fun a => eqB a x) = false from by
        rw [List.any_eq_false]
        intro a ha
        obtain ⟨i, hi, rfl⟩ := List.mem_iff_getElem.1 ha
        rw [hall i hi hi]
        simp]
      exact key.1 hall
    · rw [show l.any (fun a => eqB a x) = true from by
        cases hz : l.any (fun a => eqB a x) with
        | true => rfl
        | false =>
          rw [List.any_eq_false] at hz
          refine absurd (fun i hi _ => ?_) hall
          have := hz l[i] (List.getElem_mem hi)
          simpa using this]
      exact key.2 hall
  · intro i hi hp r hr
    have hp' := hp hi
    clear hp
    refine Ev.step (fun k => by rw [spec_l4In.l0]) (Ev.pos (by omega) (Ev.pos (by omega) ?_))
    rw [rdF _ _ hi, fs_eq2]
    refine Ev.bind (g := fun _ => _) (Ev.some rfl) (Ev.neg (by rw [hp']; simp) ?_)
    rw [wr1 _ (by omega)]
    exact hr
  · intro i hi hp
    have hp' : eqB l[i] x = true := by
      cases hz : eqB l[i] x with
      | true => rfl
      | false => exact absurd (fun _ => hz) hp
    clear hp
    refine Ev.step (fun k => by rw [spec_l4In.l0]) (Ev.pos (by omega) (Ev.pos (by omega) ?_))
    rw [rdF _ _ hi, fs_eq2]
    exact Ev.bind (g := fun _ => _) (Ev.some rfl) (Ev.pos hp' (Ev.now _))
  · exact Ev.step (fun k => by rw [spec_l4In.l0]) (Ev.neg (by omega) (Ev.now _))
theorem ev_l4Var (l : List Fm) (x : Fm) (hl : l.length ≤ 2000000) : Ev (fun k => spec_l4Var.f k x.f0 x.f1 x.f2 x.f3 x.f4 l) (varB l x) := by
  unfold spec_l4Var.f varB
  by_cases h1 : x.f0 = 1
  rotate_left
  · rw [show (x.f0 == 1) = false from by simpa using h1]
    simp only [Bool.false_and]
    exact Ev.neg h1 (Ev.now _)
  refine Ev.pos h1 ?_
  rw [show (x.f0 == 1) = true from by simpa using h1, Bool.true_and]
  by_cases h2 : x.f1.toList = [46, 46, 46]
  · rw [show (x.f1.toList == [46, 46, 46]) = true from by simpa using h2]
    simp only [Bool.not_true, Bool.false_and]
    exact Ev.pos h2 (Ev.now _)
  refine Ev.neg h2 ?_
  rw [show (x.f1.toList == [46, 46, 46]) = false from by simpa using h2, Bool.not_false, Bool.true_and]
  by_cases h3 : x.f1.toList = [95]
  · rw [show (x.f1.toList == [95]) = true from by simpa using h3]
    simp only [Bool.not_true, Bool.false_and]
    exact Ev.pos h3 (Ev.now _)
  refine Ev.neg h3 ?_
  rw [show (x.f1.toList == [95]) = false from by simpa using h3, Bool.not_false, Bool.true_and]
  exact Ev.bind (ev_l4In l x hl) (Ev.now _)
theorem lit_row {l : List Fm} (hl : l.length ≤ 2000000) (ht : ∀ x, x ∈ l → x.tot ≤ 1048576) {i : Nat} (hi : i < l.length) (h10 : i < 10) : (LitAt l i → ∀ r, Ev (fun k => spec_l4Literals.l0 k l ((i + 1 : Nat) : Int)) r → Ev (fun k => spec_l4Literals.l0 k l (i : Int)) r) ∧ (¬ LitAt l i → Ev (fun k => spec_l4Literals.l0 k l (i : Int)) false) := by
  have hn := ev_l4In (l.take i) l[i] (by rw [List.length_take]; omega)
  have hx := l3_eq2 (ht _ (List.getElem_mem hi))
  have pre : ∀ r, Ev (fun k => if pB (IsName l[i]) = true then (if (l[i].f1).toList = ([46, 46, 46] : List UInt8) then (some false) else (if (l[i].f1).toList = ([95] : List UInt8) then (some false) else ((spec_l4In.f k (l.take i) l[i].f0 l[i].f1 l[i].f2 l[i].f3 l[i].f4).bind fun t226 => (if t226 = true then (some false) else (spec_l4Literals.l0 k l ((i + 1 : Nat) : Int)))))) else some false) r → Ev (fun k => spec_l4Literals.l0 k l (i : Int)) r := by
    intro r hr
    refine Ev.step (fun k => by rw [spec_l4Literals.l0]) (Ev.pos (by omega) ?_)
    rw [show decide ((i : Int) < 10) = true from decide_eq_true (by omega)]
    refine Ev.step (fun k => by rw [spec_l4Literals.j1]) (Ev.pos rfl (Ev.pos (by omega) (Ev.pos (by omega) ?_)))
    rw [rdF _ _ hi, hx]
    refine Ev.bind (g := fun _ => _) (Ev.some rfl) ?_
    rw [wr1 _ (by omega), Int.toNat_natCast]
    simp only [if_pos (show (i : Int) ≤ (l.length : Int) by omega)]
    exact hr
  by_cases h1 : IsName l[i]
  rotate_left
  · refine ⟨fun h => absurd (h hi).1.1 h1, fun _ => pre _ ?_⟩
    rw [← pB_no h1]
    exact Ev.neg (by simp) (Ev.now _)
  by_cases h2 : l[i].f1.toList = [46, 46, 46]
  · exact ⟨fun h => absurd h2 (h hi).1.2.1, fun _ => pre _ (Ev.pos (pB_iff.2 h1) (Ev.pos h2 (Ev.now _)))⟩
  by_cases h3 : l[i].f1.toList = [95]
  · exact ⟨fun h => absurd h3 (h hi).1.2.2, fun _ => pre _ (Ev.pos (pB_iff.2 h1) (Ev.neg h2 (Ev.pos h3 (Ev.now _))))⟩
  cases hz : (l.take i).any (fun a => eqB a l[i]) with
  | true =>
    rw [hz] at hn
    exact ⟨fun h => (by have := (h hi).2; rw [hz] at this; cases this), fun _ => pre _ (Ev.pos (pB_iff.2 h1) (Ev.neg h2 (Ev.neg h3 (Ev.bind hn (Ev.pos rfl (Ev.now _))))))⟩
  | false =>
    rw [hz] at hn
    exact ⟨fun _ r hr => pre _ (Ev.pos (pB_iff.2 h1) (Ev.neg h2 (Ev.neg h3 (Ev.bind hn (Ev.neg (by simp) hr))))), fun h => absurd (fun _ => ⟨⟨h1, h2, h3⟩, hz⟩) h⟩
theorem ev_l4Literals {l : List Fm} (hl : l.length ≤ 2000000) (ht : ∀ x, x ∈ l → x.tot ≤ 1048576) : Ev (fun k => spec_l4Literals.f k l) (pB (LitsOk l)) := by
  unfold spec_l4Literals.f
  obtain ⟨N, hN⟩ : ∃ N, N = if l.length ≤ 10 then l.length else 10 := ⟨_, rfl⟩
  have hN1 : N ≤ l.length := by rw [hN]; split <;> omega
  have hN2 : N ≤ 10 := by rw [hN]; split <;> omega
  have hN3 : N = l.length ∨ N = 10 := by rw [hN]; split <;> omega
  have key := ev_all (L := fun k i => spec_l4Literals.l0 k l ((i : Nat) : Int)) (LitAt l) N (decide (l.length ≤ 9)) false
    (fun i hi hp r hr => (lit_row hl ht (by omega) (by omega)).1 hp r hr) (fun i hi hp => (lit_row hl ht (by omega) (by omega)).2 hp) (by
      have e9 : decide ((l.length : Int) < 10) = decide (l.length ≤ 9) := decide_eq_decide.mpr (by omega)
      have jF : Ev (fun k => spec_l4Literals.j1 k l (N : Int) false) (decide (l.length ≤ 9)) := by
        refine Ev.step (fun k => by rw [spec_l4Literals.j1]) (Ev.neg (by simp) ?_)
        rw [e9]
        exact Ev.now _
      refine Ev.step (fun k => by rw [spec_l4Literals.l0]) ?_
      by_cases h : (N : Int) < (l.length : Int)
      · refine Ev.pos h ?_
        rw [show decide ((N : Int) < 10) = false from decide_eq_false (by omega)]
        exact jF
      · exact Ev.neg h jF)
  by_cases hall : ∀ i, i < N → LitAt l i
  · have := key.1 hall
    by_cases h9 : l.length ≤ 9
    · rw [show pB (LitsOk l) = true from pB_iff.2 ⟨h9, fun i hi => hall i (by omega) hi⟩]
      rw [decide_eq_true h9] at this
      exact this
    · rw [← pB_no (fun k : LitsOk l => h9 k.1)]
      rw [decide_eq_false h9] at this
      exact this
  · rw [← pB_no (fun k : LitsOk l => hall (fun i _ => k.2 i))]
    exact key.2 hall
theorem ev_l4Shape (x : Fm) : x.tot ≤ 2000000 → Ev (fun k => spec_l4Shape.f k x.f0 x.f1 x.f2 x.f3 x.f4) (!dotsB x && pB (ShOk x)) := by
  induction x using Fm.ind with
  | h x ih =>
    intro ht
    have htt := x.tot_eq
    have hln := len_totL x.f4
    refine Ev.step (fun k => by rw [spec_l4Shape.f]) ?_
    rw [ev_l4Dots]
    refine Ev.bind (g := fun _ => _) (Ev.some rfl) ?_
    cases hd : dotsB x with
    | true => exact Ev.pos rfl (Ev.now _)
    | false =>
    refine Ev.neg (by simp) ?_
    rw [Bool.not_false, Bool.true_and]
    have hcl : ∀ i, (x.f4.take i).countP dotsB ≤ x.f4.length := fun i => Nat.le_trans List.countP_le_length (by rw [List.length_take]; exact Nat.min_le_right _ _)
    have key := ev_all (L := fun k i => spec_l4Shape.l0 k (((x.f4.take i).countP dotsB : Nat) : Int) ((i : Nat) : Int) x.f0 x.f1 x.f2 x.f3 x.f4)
      (fun i => ∀ hi : i < x.f4.length, (dotsB x.f4[i] = true → 0 < i ∧ ∀ hp : i - 1 < x.f4.length, dotsB (x.f4[i - 1]'hp) = false) ∧ (dotsB x.f4[i] = false → ShOk x.f4[i])) x.f4.length (decide (x.f4.countP dotsB ≤ 1)) false ?_ ?_ ?_
    · have hs := shOk_count x
      by_cases hall : ∀ i, i < x.f4.length → ∀ hi : i < x.f4.length, (dotsB x.f4[i] = true → 0 < i ∧ ∀ hp : i - 1 < x.f4.length, dotsB (x.f4[i - 1]'hp) = false) ∧ (dotsB x.f4[i] = false → ShOk x.f4[i])
      · have := key.1 hall
        rw [show pB (ShOk x) = decide (x.f4.countP dotsB ≤ 1) from (pB_of (by rw [decide_eq_true_iff]; exact ⟨fun k => hs.2 ⟨hall, k⟩, fun k => (hs.1 k).2⟩)).symm]
        exact this
      · rw [← pB_no (fun k => hall (hs.1 k).1)]
        exact key.2 hall
    · intro i hi hp r hr
      obtain ⟨p1, p2⟩ := hp hi
      clear hp
      have hct := count_take x.f4 hi
      have hc2 := hcl i
      refine Ev.step (fun k => by rw [spec_l4Shape.l0]) (Ev.pos (by omega) (Ev.pos (by omega) ?_))
      rw [rdF _ _ hi, ev_l4Dots]
      refine Ev.bind (g := fun _ => _) (Ev.some rfl) ?_
      cases hdi : dotsB x.f4[i] with
      | false =>
        have hk := ih x.f4[i] (List.getElem_mem hi) (by have := totL_mem (List.getElem_mem hi); omega)
        rw [hdi, pB_iff.2 (p2 hdi)] at hk
        rw [hdi, if_neg (by simp), Nat.add_zero] at hct
        rw [hct] at hr
        refine Ev.neg (by simp) (Ev.bind hk (Ev.pos rfl ?_))
        rw [wr1 _ (by omega)]
        exact hr
      | true =>
        obtain ⟨h0, h1⟩ := p1 hdi
        rw [if_pos hdi] at hct
        rw [hct] at hr
        refine Ev.pos rfl (Ev.neg (by omega) ?_)
        have hw : wrap64 ((i : Int) - 1) = ((i - 1 : Nat) : Int) := by rw [Go.IntWalk.wrap64_in _ ⟨by omega, by omega⟩]; omega
        rw [hw]
        refine Ev.pos (by omega) (Ev.pos (by omega) ?_)
        rw [rdF _ _ (show i - 1 < x.f4.length by omega), ev_l4Dots, h1 (by omega), wr1 _ (by omega)]
        refine Ev.bind (g := fun _ => _) (Ev.some rfl) (Ev.step (fun k => by rw [spec_l4Shape.j1]) (Ev.neg (by simp) ?_))
        rw [wr1 _ (by omega)]
        exact hr
    · intro i hi hp
      have HP := Lib.hid hp
      clear hp
      have hc2 := hcl i
      refine Ev.step (fun k => by rw [spec_l4Shape.l0]) (Ev.pos (by omega) (Ev.pos (by omega) ?_))
      rw [rdF _ _ hi, ev_l4Dots]
      refine Ev.bind (g := fun _ => _) (Ev.some rfl) ?_
      cases hdi : dotsB x.f4[i] with
      | false =>
        have hk := ih x.f4[i] (List.getElem_mem hi) (by have := totL_mem (List.getElem_mem hi); omega)
        rw [hdi, ← pB_no (fun k : ShOk x.f4[i] => HP.out (fun _ => ⟨fun h => (by rw [hdi] at h; cases h), fun _ => k⟩))] at hk
        exact Ev.neg (by simp) (Ev.bind hk (Ev.neg (by simp) (Ev.now _)))
      | true =>
        refine Ev.pos rfl ?_
        rw [wr1 _ (by omega)]
        by_cases h0 : i = 0
        · exact Ev.pos (by omega) (Ev.step (fun k => by rw [spec_l4Shape.j1]) (Ev.pos rfl (Ev.now _)))
        refine Ev.neg (by omega) ?_
        have hw : wrap64 ((i : Int) - 1) = ((i - 1 : Nat) : Int) := by rw [Go.IntWalk.wrap64_in _ ⟨by omega, by omega⟩]; omega
        rw [hw]
        refine Ev.pos (by omega) (Ev.pos (by omega) ?_)
        have hlt : i - 1 < x.f4.length := by omega
        have hd1 : dotsB (x.f4[i - 1]'hlt) = true := by
          cases hz : dotsB (x.f4[i - 1]'hlt) with
          | true => rfl
          | false => exact absurd (fun _ => ⟨fun _ => ⟨by omega, fun _ => hz⟩, fun h => (by rw [hdi] at h; cases h)⟩) HP.out
        rw [rdF _ _ hlt, ev_l4Dots, hd1]
        exact Ev.bind (g := fun _ => _) (Ev.some rfl) (Ev.step (fun k => by rw [spec_l4Shape.j1]) (Ev.pos rfl (Ev.now _)))
    · refine Ev.step (fun k => by rw [spec_l4Shape.l0]) (Ev.neg (by omega) ?_)
      rw [List.take_length, show decide (((x.f4.countP dotsB : Nat) : Int) ≤ 1) = decide (x.f4.countP dotsB ≤ 1) from decide_eq_decide.mpr (by omega)]
      exact Ev.now _
end
end Go.Proofs.Ytlklclebjeeaaaa
end
section
namespace Go.Proofs.Ytlklclebjeeaaaa
open Go.RowKit Go.Proofs.YtlklclebjeeaaaaW.PrintWords Go.Proofs.YtlklclebjeeaaaaW.PrintLast Go.Proofs.YtlklclebjeeaaaaW.PrintMore
set_option linter.unusedVariables false
set_option linter.unusedSimpArgs false
/-- Only the blocks of S, and new ones, may have changed. -/
structure Mk (S : List Nat) (w w' : World) : Prop where
  b0 : Below 0 w w'
  keep : ∀ b, b < w.heap.size → b ∉ S → w'.heap[b]? = w.heap[b]?
theorem Mk.refl (S : List Nat) (w : World) : Mk S w w := ⟨Below.refl _ _, fun _ _ _ => rfl⟩
theorem Mk.trans {S : List Nat} {a b c : World} (h : Mk S a b) (k : Mk S b c) : Mk S a c :=
  ⟨h.b0.trans k.b0, fun j hj hs => (k.keep j (Nat.lt_of_lt_of_le hj h.b0.size) hs).trans (h.keep j hj hs)⟩
theorem Mk.more {S T : List Nat} {a b : World} (h : Mk S a b) (hs : ∀ j, j ∈ S → j ∈ T) : Mk T a b := ⟨h.b0, fun j hj ht => h.keep j hj (fun q => ht (hs j q))⟩
theorem Mk.ofBelow {S : List Nat} {w w' : World} (h : Below w.heap.size w w') : Mk S w w' := ⟨h.mono (Nat.zero_le _), fun b hb _ => h.block b hb⟩
theorem Mk.set {S : List Nat} (w : World) {g : Nat} (hg : g ∈ S) (i : Nat) (u : Value) : Mk S w (w.setCell ⟨g, i, none⟩ u) :=
  ⟨(Below.refl 0 w).setCell (Nat.zero_le _) u, fun b _ hb => Below.heap_setCell _ _ _ _ (fun h => hb (h ▸ hg))⟩
theorem Mk.below {S : List Nat} {w w' : World} {B : Nat} (h : Mk S w w') (hB : B ≤ w.heap.size) (hs : ∀ b, b ∈ S → B ≤ b) : Below B w w' :=
  ⟨h.b0.os, h.b0.tape, h.b0.output, h.b0.size, fun k hk => h.keep k (Nat.lt_of_lt_of_le hk hB) (fun q => Nat.lt_irrefl _ (Nat.lt_of_lt_of_le hk (hs k q)))⟩
theorem Mk.tree {S fp : List Nat} {w w' : World} {x : Fm} {v3 v4 : Value} (h : Mk S w w') (ht : TrF w x v3 v4 fp) (hs : ∀ b, b ∈ fp → b ∉ S) : TrF w' x v3 v4 fp :=
  ht.move x (fun b hb => h.keep b (ht.lt x b hb) (hs b hb))
/-- The numbers k, k + 1, ..: n of them. -/
def markI (n : Nat) (k : Int) : List Int := (List.range n).map (fun i : Nat => k + (i : Int))
theorem markI_length (n : Nat) (k : Int) : (markI n k).length = n := by simp [markI]
set_option maxHeartbeats 1000000 in
theorem markIntS_any (xs : List Int) (v : Value) (k : Int) (w : World) (h : kI.R 3 w 0 (fun _ => True) v xs) (hk0 : 0 ≤ k) (hk1 : k + xs.length ≤ 1000000000) :
    Calls Try.prog 21 #[v, .int .i64 k] w (fun e w' => e = .returned (.int .i64 (k + xs.length)) ∧ kI.R 3 w' 0 (fun _ => True) v (markI xs.length k) ∧ Mk (obs v) w w') := by
  obtain ⟨A, c, rfl, hcap, hC0⟩ := own_C (Kd.own_of_R h)
  have hmax := hC0.2.1
  have HA := Lib.hid h
  clear h hC0
  go_enter Try.func21, Try.ntmps21
  go_wp2_with fail
  go_loopg [1, 5] xs.length (fun kq v1 v5 w' => ∃ i : Nat, i ≤ xs.length ∧ xs.length - i ≤ kq ∧ v5 = .int .i64 i ∧ v1 = .int .i64 (k + (i : Int)) ∧ Aside0 (kI.R 3 w' 0 (fun _ => True) (.slice A xs.length c) (markI i k ++ xs.drop i)) ∧ Aside0 (Mk (obs (.slice A xs.length c)) w w'))
  case atStart => exact ⟨0, Nat.zero_le _, by omega, rfl, by simp, ⟨by simpa [markI] using HA.out⟩, ⟨Mk.refl _ _⟩⟩
  case round =>
    obtain ⟨i, hi, hg, rfl, rfl, HO, HW⟩ := hrel
    by_cases hlt : i < xs.length
    · have hlen : (markI i k ++ xs.drop i).length = xs.length := by simp [markI]; omega
      obtain ⟨g, cap, e, hg1, _, hx, hf, _, HP⟩ := own_at HO.out i (by omega)
      rw [hlen] at e HP
      have hA : A = some ⟨g, 0, none⟩ := by cases e; rfl
      have hcc : c = cap := by cases e; rfl
      subst hA
      subst hcc
      have HP := Lib.hid (HP (k + (i : Int)))
      have HM := Lib.hid (Mk.set wr (S := obs (.slice (some ⟨g, 0, none⟩) xs.length c)) (g := g) (by simp [obs, Value.ownBlock]) i (.int .i64 (k + (i : Int))))
      clear e
      go_wp2_with fail
      go_roundg (xs.length - (i + 1))
      case measure => omega
      case rel =>
        refine ⟨i + 1, by omega, Nat.le_refl _, by go_num, by go_num, ⟨?_⟩, ⟨HW.out.trans HM.out⟩⟩
        have := HP.out
        rwa [show (markI i k ++ xs.drop i).set i (k + (i : Int)) = markI (i + 1) k ++ xs.drop (i + 1) from ?_] at this
        have e1 : (List.drop i xs).set 0 (k + (i : Int)) = (k + (i : Int)) :: List.drop (i + 1) xs := by rw [List.drop_eq_getElem_cons hlt]; rfl
        rw [List.set_append_right _ _ (by simp [markI]), markI_length, Nat.sub_self, e1]
        simp [markI, List.range_succ]
    · obtain rfl : i = xs.length := by omega
      go_wp2_with fail
      go_ret
      refine ⟨rfl, ?_, HW.out⟩
      have := HO.out
      rwa [List.drop_length, List.append_nil] at this
theorem heldIntS_any (n : Nat) (A : Option Addr) (c : Nat) (k : Int) (w : World) (hr : kI.C w A n (markI n k)) (hc : n ≤ c) (hk0 : 0 ≤ k) (hk1 : k + n ≤ 1000000000) :
    Calls Try.prog 22 #[.slice A n c, .int .i64 k] w (Ret w (.int .i64 (k + n))) := by
  have hmax := hr.2.1
  go_enter Try.func22, Try.ntmps22
  go_wp2_with fail
  go_loopg [1, 5] n (fun kq v1 v5 w' => ∃ i : Nat, i ≤ n ∧ n - i ≤ kq ∧ v5 = .int .i64 i ∧ v1 = .int .i64 (k + (i : Int)) ∧ Aside0 (Below w.heap.size w w'))
  case atStart => exact ⟨0, Nat.zero_le _, by omega, rfl, by simp, ⟨Below.refl _ _⟩⟩
  case round =>
    obtain ⟨i, hi, hg, rfl, rfl, HW⟩ := hrel
    by_cases hlt : i < n
    · obtain ⟨ad, e, hcell⟩ := int_at (Kd.C_below hr HW.out) i (by rw [markI_length]; exact hlt)
      subst e
      rw [show (markI n k)[i]'(by rw [markI_length]; exact hlt) = k + (i : Int) from by simp [markI]] at hcell
      have ht : ((k + (i : Int)) != (k + (i : Int))) = false := by simp
      go_wp2_with fail
      go_roundg (n - (i + 1))
      case measure => omega
      case rel => exact ⟨i + 1, by omega, Nat.le_refl _, by go_num, by go_num, ⟨HW.out⟩⟩
    · obtain rfl : i = n := by omega
      go_wp2_with fail
      go_ret
      exact ⟨rfl, HW.out⟩
def dg (n : Nat) (acc : ByteArray) : ByteArray := if h : n = 0 then acc else dg (n / 10) (⟨#[48 + UInt8.ofNat (n % 10)]⟩ ++ acc)
termination_by n
decreasing_by omega
def mt (k : Int) : ByteArray := if k ≤ 0 then ⟨#[109, 48]⟩ else ⟨#[109]⟩ ++ dg k.toNat ⟨#[]⟩
set_option maxRecDepth 100000 in
set_option maxHeartbeats 1000000 in
theorem markText_any (k : Nat) (w : World) (hk0 : 1 ≤ k) (hk1 : k ≤ 1000000000) :
    Calls Try.prog 54 #[.int .i64 k] w (Ret w (.string (mt k))) := by
  have t0 : decide ((k : Int) ≤ 0) = false := decide_eq_false (by omega)
  have t0' : decide (k = 0) = false := decide_eq_false (by omega)
  go_enter Try.func54, Try.ntmps54
  go_wp2_with fail
  go_loopg [0, 3] k (fun kq v0 v3 w' => ∃ (n : Nat) (acc : ByteArray), acc.size + n ≤ k ∧ n ≤ kq ∧ v0 = .int .i64 n ∧ v3 = .string acc ∧ Aside0 (dg n acc = dg k ⟨#[]⟩) ∧ Aside0 (Below w.heap.size w w'))
  case atStart => exact ⟨k, _, (by have : (ByteArray.mk #[]).size = 0 := rfl; omega), by omega, rfl, rfl, ⟨rfl⟩, ⟨Below.refl _ _⟩⟩
  case round =>
    obtain ⟨n, acc, hn, hg, rfl, rfl, HD, HW⟩ := hrel
    have ha : acc.size ≤ 1000000000 := by omega
    by_cases hz : n = 0
    · have t1 : decide ((n : Int) > 0) = false := decide_eq_false (by omega)
      have t2 : decide (0 < n) = false := decide_eq_false (by omega)
      have HZ := Lib.hid hz
      clear hz
      go_wp2_with fail
      go_ret
      refine ⟨?_, HW.out⟩
      have h1 := HD.out
      rw [HZ.out, dg, dif_pos rfl] at h1
      rw [h1, mt, if_neg (by omega), Int.toNat_natCast]
      rfl
    · have t1 : decide ((n : Int) > 0) = true := decide_eq_true (by omega)
      have t2 : decide (0 < n) = true := decide_eq_true (by omega)
      have hd : (convert 99 9 (.slice (some ⟨wr.heap.size, 0, none⟩) 1 1)).run Try.prog (wr.alloc (.cells #[.int .u8 (48 + (n : Int) % 10)] 5)) = .ok (.string ⟨#[UInt8.ofNat (48 + n % 10)]⟩) (wr.alloc (.cells #[.int .u8 (48 + (n : Int) % 10)] 5)) :=
        run_convert_bytes_back (P := Try.prog) _ 99 9 5 ⟨wr.heap.size, 0, none⟩ 1 [UInt8.ofNat (48 + n % 10)] Try.underlying99 Try.underlying5 Try.underlying9 (by
          intro j hj
          obtain rfl : j = 0 := by simpa using hj
          have h8 : (UInt8.ofNat (48 + n % 10)).toNat = 48 + n % 10 := by rw [UInt8.toNat_ofNat']; omega
          show _ = some (Value.int .u8 ((UInt8.ofNat (48 + n % 10)).toNat : Int))
          rw [h8]
          exact ((blk_cell (blk_new wr (.cells #[.int .u8 (48 + (n : Int) % 10)] 5)) 0).trans (by simp)))
      go_wp2_with fail
      go_roundg (n / 10)
      case measure => omega
      case rel =>
        refine ⟨n / 10, _, ?_, Nat.le_refl _, by go_num, rfl, ⟨?_⟩, ⟨HW.out.alloc HW.out.size _⟩⟩
        · have : (⟨#[48 + UInt8.ofNat (n % 10)]⟩ ++ acc : ByteArray).size = 1 + acc.size := by rw [ByteArray.size_append]; rfl
          omega
        · have h1 := HD.out
          rw [dg, dif_neg hz] at h1
          exact h1
end Go.Proofs.Ytlklclebjeeaaaa
end
section
namespace Go.Proofs.Ytlklclebjeeaaaa
open Go.RowKit Go.Proofs.YtlklclebjeeaaaaW.PrintWords Go.Proofs.YtlklclebjeeaaaaW.PrintLast Go.Proofs.YtlklclebjeeaaaaW.PrintMore
set_option linter.unusedVariables false
set_option linter.unusedSimpArgs false
/-- A row of forms that read in wB. -/
inductive RowL (wB : World) : List Fm → List Value → Prop
  | nil : RowL wB [] []
  | cons (k : Fm) (ks : List Fm) (A3 : Option Addr) (c3 : Nat) (A4 : Option Addr) (c4 : Nat) (rest : List Value) (hk : FmIn wB k A3 c3 A4 c4) (hs : RowL wB ks rest) : RowL wB (k :: ks) (fmC k A3 c3 A4 c4 ++ rest)
theorem RowL.snoc {wB : World} {l : List Fm} {inner : List Value} (h : RowL wB l inner) {x : Fm} {A3 A4 : Option Addr} {c3 c4 : Nat} (hx : FmIn wB x A3 c3 A4 c4) : RowL wB (l ++ [x]) (inner ++ fmC x A3 c3 A4 c4) := by
  induction h with
  | nil => have := RowL.cons x [] _ _ _ _ [] hx .nil; rw [List.append_nil] at this; exact this
  | cons k ks B3 d3 B4 d4 rest hk hs ih => rw [List.cons_append, List.append_assoc]; exact .cons k (ks ++ [x]) _ _ _ _ _ hk ih
theorem RowL.len {wB : World} {l : List Fm} {inner : List Value} (h : RowL wB l inner) : inner.length = l.length * 5 := by
  induction h with
  | nil => rfl
  | cons k ks B3 d3 B4 d4 rest hk hs ih => rw [List.length_append, ih]; simp [fmC]; omega
theorem RowL.reps {wB w : World} {l : List Fm} {inner : List Value} (h : RowL wB l inner) (hb : Below wB.heap.size wB w) : Reps (kF.K w) 5 l inner := by
  induction h with
  | nil => exact Reps.none _ _
  | cons k ks B3 d3 B4 d4 rest hk hs ih =>
    refine ⟨by rw [List.length_append, ih.1]; simp [fmC]; omega, fun j p hj => ?_⟩
    cases j with
    | zero =>
      have : k = p := by simpa using hj
      subst this
      have := kF_mk (hk.below hb)
      simpa [fmC] using this
    | succ j =>
      have h2 := ih.2 j p (by simpa using hj)
      rw [show (j + 1) * 5 = 5 + j * 5 from by omega, ← List.drop_drop]
      simpa [fmC] using h2
/-- v is such a row, in memory behind wB's. -/
structure RowF (wB w : World) (v : Value) (l : List Fm) : Prop where mk ::
  row : ∃ inner, w.ownsRow wB.heap.size 34 5 v l.length inner ∧ RowL wB l inner
theorem RowF.reads {wB w : World} {v : Value} {l : List Fm} (h : RowF wB w v l) (hb : Below wB.heap.size wB w) : ∃ A c, v = .slice A l.length c ∧ l.length ≤ c ∧ kF.C w A l.length l := by
  obtain ⟨inner, ho, hr⟩ := h.row
  obtain ⟨A, c, e, r⟩ := own_reads_row (R := kF.K w) ho (hr.reps hb) rfl
  subst e
  exact ⟨A, c, rfl, own_le ho, r⟩
theorem RowF.move {wB w w1 : World} {v : Value} {l : List Fm} (h : RowF wB w v l) (hm : ∀ k, v.ownBlock = some k → w1.heap[k]? = w.heap[k]?) : RowF wB w1 v l := by
  obtain ⟨inner, ho, hr⟩ := h.row
  exact ⟨inner, own_move ho hm, hr⟩
theorem RowF.lt {wB w : World} {v : Value} {l : List Fm} (h : RowF wB w v l) : ∀ k, v.ownBlock = some k → k < w.heap.size := by
  obtain ⟨inner, ho, hr⟩ := h.row
  exact own_lt ho
theorem RowF.ge {wB w : World} {v : Value} {l : List Fm} (h : RowF wB w v l) : ∀ k, v.ownBlock = some k → wB.heap.size ≤ k := by
  obtain ⟨inner, ho, hr⟩ := h.row
  exact own_base ho
/-- v is a row of numbers, in memory behind wB's. -/
structure RowI (wB w : World) (v : Value) (l : List Int) : Prop where mk ::
  row : w.ownsRow wB.heap.size 3 1 v l.length (nums .i64 l)
theorem RowI.reads {wB w : World} {v : Value} {l : List Int} (h : RowI wB w v l) : ∃ A c, v = .slice A l.length c ∧ l.length ≤ c ∧ kI.C w A l.length l := own_C (own_weaken h.row (Nat.zero_le _))
theorem RowI.move {wB w w1 : World} {v : Value} {l : List Int} (h : RowI wB w v l) (hm : ∀ k, v.ownBlock = some k → w1.heap[k]? = w.heap[k]?) : RowI wB w1 v l := ⟨own_move h.row hm⟩
theorem RowI.lt {wB w : World} {v : Value} {l : List Int} (h : RowI wB w v l) : ∀ k, v.ownBlock = some k → k < w.heap.size := own_lt h.row
theorem RowI.ge {wB w : World} {v : Value} {l : List Int} (h : RowI wB w v l) : ∀ k, v.ownBlock = some k → wB.heap.size ≤ k := own_base h.row
/-- A row's block is the old one or a new one. -/
structure Gr (S : Nat) (v v' : Value) : Prop where mk ::
  h : ∀ k, v'.ownBlock = some k → v.ownBlock = some k ∨ S ≤ k
theorem Gr.refl (S : Nat) (v : Value) : Gr S v v := ⟨fun k h => .inl h⟩
theorem Gr.trans {S S1 : Nat} {a b c : Value} (h : Gr S a b) (k : Gr S1 b c) (hs : S ≤ S1) : Gr S a c := ⟨fun j hj => (k.h j hj).elim (fun q => h.h j q) (fun q => .inr (Nat.le_trans hs q))⟩
theorem Gr.less {S S1 : Nat} {a b : Value} (h : Gr S1 a b) (hs : S ≤ S1) : Gr S a b := ⟨fun j hj => (h.h j hj).imp id (Nat.le_trans hs)⟩
theorem mk_grown {v : Value} {w w1 : World} (h : w.grownBy w1 v.ownBlock) : Mk (obs v) w w1 :=
  ⟨⟨h.os, h.tape, h.output, h.size, fun k hk => absurd hk (Nat.not_lt_zero _)⟩, fun b hb hn => h.block b hb (fun e => hn (obs_mem.2 e.symm))⟩
theorem gr_grown {v v1 : Value} {w : World} (h : v1.ownBlock = v.ownBlock ∨ ∃ b, v1.ownBlock = some b ∧ w.heap.size ≤ b) : Gr w.heap.size v v1 := by
  refine ⟨fun k hk => ?_⟩
  rcases h with h | ⟨b, h, hb⟩
  · exact .inl (h ▸ hk)
  · rw [h] at hk
    cases hk
    exact .inr hb
/-- What a function that only adds to a row (v at its start, v0 now) has done since its start at w0; its boxed parameter (OB) stands. -/
structure SV (wB w0 : World) (OB : Obj) (v : Value) (w : World) (v0 : Value) : Prop where
  bl : Below wB.heap.size wB w
  mm : Mk (obs v) w0 w
  gr : Gr (w0.heap.size + 1) v v0
  box : w.heap[w0.heap.size]? = some OB
  sz : w0.heap.size + 1 ≤ w.heap.size
theorem SV.start {wB w0 : World} (h : Below wB.heap.size wB w0) (OB : Obj) (v : Value) : SV wB w0 OB v (w0.alloc OB) v :=
  ⟨h.alloc h.size _, Mk.ofBelow (below_new w0 OB), Gr.refl _ _, blk_new w0 OB, by simp⟩
theorem SV.quiet {wB w0 w w1 : World} {OB : Obj} {v v0 : Value} (h : SV wB w0 OB v w v0) (b : Below w.heap.size w w1) : SV wB w0 OB v w1 v0 :=
  ⟨h.bl.trans (b.mono h.bl.size), h.mm.trans (Mk.ofBelow b), h.gr, (b.block _ (Nat.lt_of_lt_of_le (Nat.lt_succ_self _) h.sz)).trans h.box, Nat.le_trans h.sz b.size⟩
theorem SV.step {wB w0 w w1 : World} {OB : Obj} {v v0 v1 : Value} (h : SV wB w0 OB v w v0) (hv : ∀ k, v.ownBlock = some k → k < w0.heap.size) (hg : ∀ k, v0.ownBlock = some k → wB.heap.size ≤ k) (k : Mk (obs v0) w w1) (g : Gr w.heap.size v0 v1) : SV wB w0 OB v w1 v1 := by
  refine ⟨h.bl.trans (k.below h.bl.size (fun b hb => hg b (obs_mem.1 hb))), ⟨h.mm.b0.trans k.b0, fun b hb hn => ?_⟩, h.gr.trans g h.sz, ?_, Nat.le_trans h.sz k.b0.size⟩
  · refine (k.keep b (Nat.lt_of_lt_of_le hb h.mm.b0.size) (fun hm => ?_)).trans (h.mm.keep b hb hn)
    rcases h.gr.h b (obs_mem.1 hm) with q | q
    · exact hn (obs_mem.2 q)
    · omega
  · refine (k.keep w0.heap.size (Nat.lt_of_lt_of_le (Nat.lt_succ_self _) h.sz) (fun hm => ?_)).trans h.box
    rcases h.gr.h _ (obs_mem.1 hm) with q | q
    · exact absurd (hv _ q) (Nat.lt_irrefl _)
    · omega
theorem specVar_any (x : Fm) (A3 : Option Addr) (Ac3 : Nat) (A4 : Option Addr) (Ac4 : Nat) (ls : List Fm) (LA : Option Addr) (lc : Nat) (w : World) (hx : FmIn w x A3 Ac3 A4 Ac4) (hr : kF.C w LA ls.length ls) (hc : ls.length ≤ lc) (hl : ls.length ≤ 2000000) :
    Calls Try.prog 108 #[.agg #[.int .i64 x.f0, .string x.f1, .int .i64 x.f2, .slice A3 x.f3.length Ac3, .slice A4 x.f4.length Ac4], .slice LA ls.length lc] w (Ret w (.bool (varB ls x))) := by
  obtain ⟨k, hk⟩ := (ev_l4Var ls x hl).rounds
  exact Q.spec_l4Var.calls k x.f0 x.f1 x.f2 A3 Ac3 x.f3 A4 Ac4 x.f4 LA lc ls _ w hx.g3 hx.l3 hx.g4 hx.l4 hr hc hk
theorem specDots_any (x : Fm) (A3 : Option Addr) (Ac3 : Nat) (A4 : Option Addr) (Ac4 : Nat) (w : World) (hx : FmIn w x A3 Ac3 A4 Ac4) :
    Calls Try.prog 109 #[.agg #[.int .i64 x.f0, .string x.f1, .int .i64 x.f2, .slice A3 x.f3.length Ac3, .slice A4 x.f4.length Ac4]] w (Ret w (.bool (dotsB x))) :=
  Q.spec_l4Dots.calls x.f0 x.f1 x.f2 A3 Ac3 x.f3 A4 Ac4 x.f4 _ w hx.g3 hx.l3 hx.g4 hx.l4 (ev_l4Dots x)
def l4VarsC (ls : List Fm) (LA : Option Addr) (lc : Nat) (wB : World) (x : Fm) : Prop := ∀ (l : List Fm) (v : Value) (A3 : Option Addr) (Ac3 : Nat) (A4 : Option Addr) (Ac4 : Nat) (w : World), Below wB.heap.size wB w → RowF wB w v l → FmIn wB x A3 Ac3 A4 Ac4 → (l ++ varsF (varB ls) x).length ≤ 3000000 → 
    Calls Try.prog 101 #[v, .agg #[.int .i64 x.f0, .string x.f1, .int .i64 x.f2, .slice A3 x.f3.length Ac3, .slice A4 x.f4.length Ac4], .slice LA ls.length lc] w (fun e w' => ∃ v', e = .returned v' ∧ RowF wB w' v' (l ++ varsF (varB ls) x) ∧ Below wB.heap.size wB w' ∧ Mk (obs v) w w' ∧ Gr w.heap.size v v')
set_option maxHeartbeats 1000000 in
set_option maxRecDepth 100000 in
theorem l4Vars_any (ls : List Fm) (LA : Option Addr) (lc : Nat) (wB : World) (hr : kF.C wB LA ls.length ls) (hc : ls.length ≤ lc) (hl : ls.length ≤ 2000000) (x : Fm) : l4VarsC ls LA lc wB x := by
  induction x using Fm.ind with
  | h x ih =>
    intro l v A3 Ac3 A4 Ac4 w hb hrow hin ht
    have hmax := hin.g4.2.1
    have hcap := hin.l4
    have HVL := Lib.hid hrow.lt
    have HSV := Lib.hid (SV.start hb (.cells #[.int .i64 x.f0, .string x.f1, .int .i64 x.f2, .slice A3 x.f3.length Ac3, .slice A4 x.f4.length Ac4] 34 (0, 0)) v)
    have HRW := Lib.hid (hrow.move (w1 := w.alloc (.cells #[.int .i64 x.f0, .string x.f1, .int .i64 x.f2, .slice A3 x.f3.length Ac3, .slice A4 x.f4.length Ac4] 34)) (fun k hk => (below_new w (.cells #[.int .i64 x.f0, .string x.f1, .int .i64 x.f2, .slice A3 x.f3.length Ac3, .slice A4 x.f4.length Ac4] 34)).block k (hrow.lt k hk)))
    have HI := Lib.hid hin
    have HT2 := Lib.hid ht
    have IH := Lib.hid ih
    have HQ := Lib.hid (specVar_any x A3 Ac3 A4 Ac4 ls LA lc (w.alloc (.cells #[.int .i64 x.f0, .string x.f1, .int .i64 x.f2, .slice A3 x.f3.length Ac3, .slice A4 x.f4.length Ac4] 34)) (hin.below HSV.out.bl) (Kd.C_below hr HSV.out.bl) hc hl)
    clear hb hrow hin ht ih hr
    obtain ⟨p0, p1, p2, p3, p4⟩ := fm_cells HSV.out.box
    go_enter Try.func101, Try.ntmps101
    go_wp2_with fail
    refine HQ.out.mono ?_
    rintro e w1 ⟨rfl, b⟩
    replace HRW := Lib.hid (HRW.out.move (fun k hk => b.block k (HRW.out.lt k hk)))
    replace HSV := Lib.hid (HSV.out.quiet b)
    clear b p0 p1 p2 p3 p4 HQ
    obtain ⟨p0, p1, p2, p3, p4⟩ := fm_cells HSV.out.box
    cases hV : varB ls x with
    | true =>
      have HSUM : Hid (l ++ [x] ++ varsFs (varB ls) x.f4 = l ++ varsF (varB ls) x) := Lib.hid (by rw [varsF_eq, if_pos hV, List.append_assoc])
      clear hV
      have HT := Lib.hid (show l.length + 1 ≤ 3000000 by have := HT2.out; rw [← HSUM.out, List.length_append, List.length_append] at this; simp at this; omega)
      have HBL := Lib.hid HSV.out.bl
      obtain ⟨inner, ho, hrl⟩ := HRW.out.row
      have HO := Lib.hid ho
      have HRL := Lib.hid hrl
      clear ho hrl
      go_wp2_with (first | ((with_reducible refine gate_dst (N := 14) rfl ?_); refine print_append_cells (w0 := w1) wB.heap.size rfl (.tmp 11) (.tmp 13) 32 34 (.agg #[.int .i64 0, .string ⟨#[]⟩, .int .i64 0, .slice none 0 0, .slice none 0 0]) 5 80 rfl Try.underlying32 infoF rfl (by decide) (by omega) v l.length inner [.int .i64 x.f0, .string x.f1, .int .i64 x.f2, .slice A3 x.f3.length Ac3, .slice A4 x.f4.length Ac4] rfl rfl rfl (by simp [Value.oneCell']) HO.out (Below.refl _ _) HBL.out.size (by have := HT.out; omega) ?_; intro v1 w2 ho1 hb1 hg1 hat1))
      have hnew : RowF wB w2 v1 (l ++ [x]) := ⟨_, by rw [List.length_append]; exact ho1, HRL.out.snoc HI.out⟩
      have hmk := mk_grown hg1
      have hgr := gr_grown hat1
      replace HSV := Lib.hid (HSV.out.step HVL.out HRW.out.ge hmk hgr)
      replace HRW := Lib.hid hnew
      clear ho1 hb1 hg1 hat1 hmk hgr hnew HBL HO HT p0 p1 p2 p3 p4
      go_loopg [0, 7] x.f4.length (fun kq v0 v7 w' => ∃ (i : Nat) (acc : List Fm) (vv : Value), i ≤ x.f4.length ∧ x.f4.length - i ≤ kq ∧ v7 = .int .i64 i ∧ vv = v0 ∧ Aside0 (acc ++ varsFs (varB ls) (x.f4.drop i) = l ++ varsF (varB ls) x) ∧ Aside0 (RowF wB w' vv acc) ∧ Aside0 (SV wB w (.cells #[.int .i64 x.f0, .string x.f1, .int .i64 x.f2, .slice A3 x.f3.length Ac3, .slice A4 x.f4.length Ac4] 34 (0, 0)) v w' vv))
      case atStart => exact ⟨0, _, _, Nat.zero_le _, by omega, rfl, rfl, ⟨by rw [List.drop_zero]; exact HSUM.out⟩, ⟨HRW.out⟩, ⟨HSV.out⟩⟩
      case round =>
        obtain ⟨i, acc, vv, hi, hg, rfl, rfl, HACC, HRO, HST⟩ := hrel
        obtain ⟨p0, p1, p2, p3, p4⟩ := fm_cells HST.out.box
        by_cases hlt : i < x.f4.length
        rotate_left
        · obtain rfl : i = x.f4.length := by omega
          have HEQ : Hid (acc = l ++ varsF (varB ls) x) := Lib.hid (by have := HACC.out; rwa [List.drop_length, varsFs, List.append_nil] at this)
          go_wp2_with fail
          clear p0 p1 p2 p3 p4
          go_ret
          exact ⟨_, rfl, by rw [← HEQ.out]; exact HRO.out, HST.out.bl, HST.out.mm, HST.out.gr.less (Nat.le_succ _)⟩
        obtain ⟨ad, X3, Xc3, X4, Xc4, e, g0, g1, g2, g3, g4, hk⟩ := kid_at HI.out.g4 i hlt
        subst e
        have k0 := ck0 HST.out.bl g0
        have k1 := ck0 HST.out.bl g1
        have k2 := ck0 HST.out.bl g2
        have k3 := ck0 HST.out.bl g3
        have k4 := ck0 HST.out.bl g4
        clear g0 g1 g2 g3 g4
        have HSTEP := Lib.hid (varsFs_drop (varB ls) hlt)
        have HLN := Lib.hid (show (acc ++ varsF (varB ls) x.f4[i]).length ≤ 3000000 by
          have h1 := congrArg List.length HACC.out
          rw [HSTEP.out, ← List.append_assoc, List.length_append] at h1
          have h2 := HT2.out
          omega)
        have HR := Lib.hid (IH.out x.f4[i] (List.getElem_mem hlt) acc vv X3 Xc3 X4 Xc4 wr HST.out.bl HRO.out hk HLN.out)
        clear hk
        go_wp2_with fail
        refine HR.out.mono ?_
        rintro e w2 ⟨v2, rfl, hr2, hb2, hm2, hg2⟩
        have HRN := Lib.hid hr2
        have HSN := Lib.hid (HST.out.step HVL.out HRO.out.ge hm2 hg2)
        clear hr2 hb2 hm2 hg2 p0 p1 p2 p3 p4 k0 k1 k2 k3 k4
        go_wp2_with fail
        go_roundg (x.f4.length - (i + 1))
        case measure => omega
        case rel => exact ⟨i + 1, _, _, by omega, Nat.le_refl _, by go_num, rfl, ⟨by rw [List.append_assoc, ← HSTEP.out]; exact HACC.out⟩, ⟨HRN.out⟩, ⟨HSN.out⟩⟩
    | false =>
      have HSUM : Hid (l ++ varsFs (varB ls) x.f4 = l ++ varsF (varB ls) x) := Lib.hid (by rw [varsF_eq, if_neg (by rw [hV]; simp), List.nil_append])
      clear hV
      go_wp2_with fail
      clear p0 p1 p2 p3 p4
      go_loopg [0, 7] x.f4.length (fun kq v0 v7 w' => ∃ (i : Nat) (acc : List Fm) (vv : Value), i ≤ x.f4.length ∧ x.f4.length - i ≤ kq ∧ v7 = .int .i64 i ∧ vv = v0 ∧ Aside0 (acc ++ varsFs (varB ls) (x.f4.drop i) = l ++ varsF (varB ls) x) ∧ Aside0 (RowF wB w' vv acc) ∧ Aside0 (SV wB w (.cells #[.int .i64 x.f0, .string x.f1, .int .i64 x.f2, .slice A3 x.f3.length Ac3, .slice A4 x.f4.length Ac4] 34 (0, 0)) v w' vv))
      case atStart => exact ⟨0, _, _, Nat.zero_le _, by omega, rfl, rfl, ⟨by rw [List.drop_zero]; exact HSUM.out⟩, ⟨HRW.out⟩, ⟨HSV.out⟩⟩
      case round =>
        obtain ⟨i, acc, vv, hi, hg, rfl, rfl, HACC, HRO, HST⟩ := hrel
        obtain ⟨p0, p1, p2, p3, p4⟩ := fm_cells HST.out.box
        by_cases hlt : i < x.f4.length
        rotate_left
        · obtain rfl : i = x.f4.length := by omega
          have HEQ : Hid (acc = l ++ varsF (varB ls) x) := Lib.hid (by have := HACC.out; rwa [List.drop_length, varsFs, List.append_nil] at this)
          go_wp2_with fail
          clear p0 p1 p2 p3 p4
          go_ret
          exact ⟨_, rfl, by rw [← HEQ.out]; exact HRO.out, HST.out.bl, HST.out.mm, HST.out.gr.less (Nat.le_succ _)⟩
        obtain ⟨ad, X3, Xc3, X4, Xc4, e, g0, g1, g2, g3, g4, hk⟩ := kid_at HI.out.g4 i hlt
        subst e
        have k0 := ck0 HST.out.bl g0
        have k1 := ck0 HST.out.bl g1
        have k2 := ck0 HST.out.bl g2
        have k3 := ck0 HST.out.bl g3
        have k4 := ck0 HST.out.bl g4
        clear g0 g1 g2 g3 g4
        have HSTEP := Lib.hid (varsFs_drop (varB ls) hlt)
        have HLN := Lib.hid (show (acc ++ varsF (varB ls) x.f4[i]).length ≤ 3000000 by
          have h1 := congrArg List.length HACC.out
          rw [HSTEP.out, ← List.append_assoc, List.length_append] at h1
          have h2 := HT2.out
          omega)
        have HR := Lib.hid (IH.out x.f4[i] (List.getElem_mem hlt) acc vv X3 Xc3 X4 Xc4 wr HST.out.bl HRO.out hk HLN.out)
        clear hk
        go_wp2_with fail
        refine HR.out.mono ?_
        rintro e w2 ⟨v2, rfl, hr2, hb2, hm2, hg2⟩
        have HRN := Lib.hid hr2
        have HSN := Lib.hid (HST.out.step HVL.out HRO.out.ge hm2 hg2)
        clear hr2 hb2 hm2 hg2 p0 p1 p2 p3 p4 k0 k1 k2 k3 k4
        go_wp2_with fail
        go_roundg (x.f4.length - (i + 1))
        case measure => omega
        case rel => exact ⟨i + 1, _, _, by omega, Nat.le_refl _, by go_num, rfl, ⟨by rw [List.append_assoc, ← HSTEP.out]; exact HACC.out⟩, ⟨HRN.out⟩, ⟨HSN.out⟩⟩
def l4DepthsC (ls : List Fm) (LA : Option Addr) (lc : Nat) (wB : World) (x : Fm) : Prop := ∀ (d : Int) (l : List Int) (v : Value) (A3 : Option Addr) (Ac3 : Nat) (A4 : Option Addr) (Ac4 : Nat) (w : World), Below wB.heap.size wB w → RowI wB w v l → FmIn wB x A3 Ac3 A4 Ac4 → (l ++ depsF (varB ls) d x).length ≤ 3000000 → 0 ≤ d → d + x.tot ≤ 3000000 →
    Calls Try.prog 78 #[v, .agg #[.int .i64 x.f0, .string x.f1, .int .i64 x.f2, .slice A3 x.f3.length Ac3, .slice A4 x.f4.length Ac4], .slice LA ls.length lc, .int .i64 d] w (fun e w' => ∃ v', e = .returned v' ∧ RowI wB w' v' (l ++ depsF (varB ls) d x) ∧ Below wB.heap.size wB w' ∧ Mk (obs v) w w' ∧ Gr w.heap.size v v')
set_option maxHeartbeats 1000000 in
set_option maxRecDepth 100000 in
theorem l4Depths_any (ls : List Fm) (LA : Option Addr) (lc : Nat) (wB : World) (hr : kF.C wB LA ls.length ls) (hc : ls.length ≤ lc) (hl : ls.length ≤ 2000000) (x : Fm) : l4DepthsC ls LA lc wB x := by
  induction x using Fm.ind with
  | h x ih =>
    intro d l v A3 Ac3 A4 Ac4 w hb hrow hin ht hd0 hd1
    have hmax := hin.g4.2.1
    have hcap := hin.l4
    have HVL := Lib.hid hrow.lt
    have HSV := Lib.hid (SV.start hb (.cells #[.int .i64 x.f0, .string x.f1, .int .i64 x.f2, .slice A3 x.f3.length Ac3, .slice A4 x.f4.length Ac4] 34 (0, 0)) v)
    have HRW := Lib.hid (hrow.move (w1 := w.alloc (.cells #[.int .i64 x.f0, .string x.f1, .int .i64 x.f2, .slice A3 x.f3.length Ac3, .slice A4 x.f4.length Ac4] 34)) (fun k hk => (below_new w (.cells #[.int .i64 x.f0, .string x.f1, .int .i64 x.f2, .slice A3 x.f3.length Ac3, .slice A4 x.f4.length Ac4] 34)).block k (hrow.lt k hk)))
    have HI := Lib.hid hin
    have HT2 := Lib.hid ht
    have IH := Lib.hid ih
    have HQ := Lib.hid (specVar_any x A3 Ac3 A4 Ac4 ls LA lc (w.alloc (.cells #[.int .i64 x.f0, .string x.f1, .int .i64 x.f2, .slice A3 x.f3.length Ac3, .slice A4 x.f4.length Ac4] 34)) (hin.below HSV.out.bl) (Kd.C_below hr HSV.out.bl) hc hl)
    clear hb hrow hin ht ih hr
    obtain ⟨p0, p1, p2, p3, p4⟩ := fm_cells HSV.out.box
    go_enter Try.func78, Try.ntmps78
    go_wp2_with fail
    refine HQ.out.mono ?_
    rintro e w1 ⟨rfl, b⟩
    replace HRW := Lib.hid (HRW.out.move (fun k hk => b.block k (HRW.out.lt k hk)))
    replace HSV := Lib.hid (HSV.out.quiet b)
    clear b p0 p1 p2 p3 p4 HQ
    obtain ⟨p0, p1, p2, p3, p4⟩ := fm_cells HSV.out.box
    cases hV : varB ls x with
    | true =>
      have HSUM : Hid (l ++ [d] ++ depsFs (varB ls) d x.f4 = l ++ depsF (varB ls) d x) := Lib.hid (by rw [depsF_eq, if_pos hV, List.append_assoc])
      clear hV
      have HT := Lib.hid (show l.length + 1 ≤ 3000000 by have := HT2.out; rw [← HSUM.out, List.length_append, List.length_append] at this; simp at this; omega)
      have HBL := Lib.hid HSV.out.bl
      have HO := Lib.hid HRW.out.row
      go_wp2_with (first | ((with_reducible refine gate_dst (N := 17) rfl ?_); refine print_append_num (w0 := w1) wB.heap.size rfl (.tmp 14) (.tmp 16) 23 3 .i64 8 rfl Try.underlying23 infoI (by decide) v l d rfl rfl HO.out (Below.refl _ _) HBL.out.size (by have := HT.out; omega) ?_; intro v1 w2 ho1 hb1 hg1 hat1))
      have hnew : RowI wB w2 v1 (l ++ [d]) := ⟨ho1⟩
      have hmk := mk_grown hg1
      have hgr := gr_grown hat1
      replace HSV := Lib.hid (HSV.out.step HVL.out HRW.out.ge hmk hgr)
      replace HRW := Lib.hid hnew
      clear ho1 hb1 hg1 hat1 hmk hgr hnew HBL HO HT p0 p1 p2 p3 p4
      go_loopg [0, 9, 10] x.f4.length (fun kq v0 v9 v10 w' => ∃ (i : Nat) (acc : List Int) (vv : Value), i ≤ x.f4.length ∧ x.f4.length - i ≤ kq ∧ v9 = .int .i64 i ∧ vv = v0 ∧ Aside0 (acc ++ depsFs (varB ls) d (x.f4.drop i) = l ++ depsF (varB ls) d x) ∧ Aside0 (RowI wB w' vv acc) ∧ Aside0 (SV wB w (.cells #[.int .i64 x.f0, .string x.f1, .int .i64 x.f2, .slice A3 x.f3.length Ac3, .slice A4 x.f4.length Ac4] 34 (0, 0)) v w' vv))
      case atStart => exact ⟨0, _, _, Nat.zero_le _, by omega, rfl, rfl, ⟨by rw [List.drop_zero]; exact HSUM.out⟩, ⟨HRW.out⟩, ⟨HSV.out⟩⟩
      case round =>
        obtain ⟨i, acc, vv, hi, hg, rfl, rfl, HACC, HRO, HST⟩ := hrel
        obtain ⟨p0, p1, p2, p3, p4⟩ := fm_cells HST.out.box
        by_cases hlt : i < x.f4.length
        rotate_left
        · obtain rfl : i = x.f4.length := by omega
          have HEQ : Hid (acc = l ++ depsF (varB ls) d x) := Lib.hid (by have := HACC.out; rwa [List.drop_length, depsFs, List.append_nil] at this)
          go_wp2_with fail
          clear p0 p1 p2 p3 p4
          go_ret
          exact ⟨_, rfl, by rw [← HEQ.out]; exact HRO.out, HST.out.bl, HST.out.mm, HST.out.gr.less (Nat.le_succ _)⟩
        obtain ⟨ad, X3, Xc3, X4, Xc4, e, g0, g1, g2, g3, g4, hk⟩ := kid_at HI.out.g4 i hlt
        subst e
        have k0 := ck0 HST.out.bl g0
        have k1 := ck0 HST.out.bl g1
        have k2 := ck0 HST.out.bl g2
        have k3 := ck0 HST.out.bl g3
        have k4 := ck0 HST.out.bl g4
        clear g0 g1 g2 g3 g4
        have hk := Lib.hid hk
        have HSTEP := Lib.hid (depsFs_drop (varB ls) d hlt)
        have HLN := Lib.hid (fun d2 => show (acc ++ depsF (varB ls) d2 x.f4[i]).length ≤ 3000000 by
          have h1 := congrArg List.length HACC.out
          rw [HSTEP.out, ← List.append_assoc, List.length_append, List.length_append, len_depsF] at h1
          rw [List.length_append, len_depsF]
          have h2 := HT2.out
          omega)
        have hwi : wrap64 ((i : Int) + 1) = ((i + 1 : Nat) : Int) := by rw [Go.IntWalk.wrap64_in _ ⟨by omega, by omega⟩]; omega
        have hwd : wrap64 (d + 1) = d + 1 := Go.IntWalk.wrap64_in _ ⟨by omega, by omega⟩
        by_cases hn : i + 1 < x.f4.length
        rotate_left
        · have NX : Hid (nextD d (x.f4.drop (i + 1)) = d) := Lib.hid (nextD_no d (fun h => absurd h hn))
          have t1 : decide (((i + 1 : Nat) : Int) < (x.f4.length : Int)) = false := decide_eq_false (by omega)
          have t1' : decide (i + 1 < x.f4.length) = false := decide_eq_false hn
          have HSQ := HST
          replace HLN := Lib.hid (HLN.out d)
          have HR := Lib.hid (IH.out x.f4[i] (List.getElem_mem hlt) (d) acc vv X3 Xc3 X4 Xc4 wr HSQ.out.bl HRO.out hk.out HLN.out (by omega) (by have := getKidT hlt; omega))
          go_wp2_with fail
          refine HR.out.mono ?_
          rintro e w2 ⟨v2, rfl, hr2, hb2, hm2, hg2⟩
          have HRN := Lib.hid hr2
          have HSN := Lib.hid (HSQ.out.step HVL.out HRO.out.ge hm2 hg2)
          clear hr2 hb2 hm2 hg2 p0 p1 p2 p3 p4 k0 k1 k2 k3 k4
          go_wp2_with fail
          go_roundg (x.f4.length - (i + 1))
          case measure => omega
          case rel => exact ⟨i + 1, _, _, by omega, Nat.le_refl _, by go_num, rfl, ⟨by rw [List.append_assoc]; have := HACC.out; rw [HSTEP.out, NX.out] at this; exact this⟩, ⟨HRN.out⟩, ⟨HSN.out⟩⟩
        obtain ⟨ad2, Y3, Yc3, Y4, Yc4, e2, h0, h1, h2, h3, h4, hk2⟩ := kid_at HI.out.g4 (i + 1) hn
        obtain rfl : ad = ad2 := by injection e2
        clear e2
        have m0 := ck0 HST.out.bl h0
        have m1 := ck0 HST.out.bl h1
        have m2 := ck0 HST.out.bl h2
        have m3 := ck0 HST.out.bl h3
        have m4 := ck0 HST.out.bl h4
        clear h0 h1 h2 h3 h4
        have t1 : decide (((i + 1 : Nat) : Int) < (x.f4.length : Int)) = true := decide_eq_true (by omega)
        have t1' : decide (i + 1 < x.f4.length) = true := decide_eq_true hn
        have c1 : (0 : Int) ≤ ((i + 1 : Nat) : Int) := by omega
        have c2 : ((i + 1 : Nat) : Int) < (x.f4.length : Int) := by omega
        have HDT := Lib.hid (specDots_any x.f4[i + 1] Y3 Yc3 Y4 Yc4 wr (hk2.below HST.out.bl))
        clear hk2
        cases hd : dotsB x.f4[i + 1] with
        | false =>
          rw [hd] at HDT
          have NX : Hid (nextD d (x.f4.drop (i + 1)) = d) := Lib.hid (nextD_no d (fun h => hd))
          clear hd
          go_wp2_with fail
          refine HDT.out.mono ?_
          rintro e wq ⟨rfl, bq⟩
          have HBQ := Lib.hid bq
          have HSQ := Lib.hid (HST.out.quiet bq)
          clear bq p0 p1 p2 p3 p4 k0 k1 k2 k3 k4 m0 m1 m2 m3 m4
          obtain ⟨p0, p1, p2, p3, p4⟩ := fm_cells HSQ.out.box
          obtain ⟨ad2, X3, Xc3, X4, Xc4, e2, k0, k1, k2, k3, k4, hk⟩ := kid_at HI.out.g4 i hlt
          obtain rfl : ad = ad2 := by injection e2
          clear e2
          replace k0 := ck0 HSQ.out.bl k0
          replace k1 := ck0 HSQ.out.bl k1
          replace k2 := ck0 HSQ.out.bl k2
          replace k3 := ck0 HSQ.out.bl k3
          replace k4 := ck0 HSQ.out.bl k4
          have hk := Lib.hid hk
          replace HLN := Lib.hid (HLN.out d)
          have HR := Lib.hid (IH.out x.f4[i] (List.getElem_mem hlt) (d) acc vv X3 Xc3 X4 Xc4 wq HSQ.out.bl (HRO.out.move (fun k hk => HBQ.out.block k (HRO.out.lt k hk))) hk.out HLN.out (by omega) (by have := getKidT hlt; omega))
          go_wp2_with fail
          refine HR.out.mono ?_
          rintro e w2 ⟨v2, rfl, hr2, hb2, hm2, hg2⟩
          have HRN := Lib.hid hr2
          have HSN := Lib.hid (HSQ.out.step HVL.out HRO.out.ge hm2 hg2)
          clear hr2 hb2 hm2 hg2 p0 p1 p2 p3 p4 k0 k1 k2 k3 k4
          go_wp2_with fail
          go_roundg (x.f4.length - (i + 1))
          case measure => omega
          case rel => exact ⟨i + 1, _, _, by omega, Nat.le_refl _, by go_num, rfl, ⟨by rw [List.append_assoc]; have := HACC.out; rw [HSTEP.out, NX.out] at this; exact this⟩, ⟨HRN.out⟩, ⟨HSN.out⟩⟩
        | true =>
          rw [hd] at HDT
          have NX : Hid (nextD d (x.f4.drop (i + 1)) = d + 1) := Lib.hid (nextD_yes d hn hd)
          clear hd
          go_wp2_with fail
          refine HDT.out.mono ?_
          rintro e wq ⟨rfl, bq⟩
          have HBQ := Lib.hid bq
          have HSQ := Lib.hid (HST.out.quiet bq)
          clear bq p0 p1 p2 p3 p4 k0 k1 k2 k3 k4 m0 m1 m2 m3 m4
          obtain ⟨p0, p1, p2, p3, p4⟩ := fm_cells HSQ.out.box
          obtain ⟨ad2, X3, Xc3, X4, Xc4, e2, k0, k1, k2, k3, k4, hk⟩ := kid_at HI.out.g4 i hlt
          obtain rfl : ad = ad2 := by injection e2
          clear e2
          replace k0 := ck0 HSQ.out.bl k0
          replace k1 := ck0 HSQ.out.bl k1
          replace k2 := ck0 HSQ.out.bl k2
          replace k3 := ck0 HSQ.out.bl k3
          replace k4 := ck0 HSQ.out.bl k4
          have hk := Lib.hid hk
          replace HLN := Lib.hid (HLN.out (d + 1))
          have HR := Lib.hid (IH.out x.f4[i] (List.getElem_mem hlt) (d + 1) acc vv X3 Xc3 X4 Xc4 wq HSQ.out.bl (HRO.out.move (fun k hk => HBQ.out.block k (HRO.out.lt k hk))) hk.out HLN.out (by omega) (by have := getKidT hlt; omega))
          go_wp2_with fail
          refine HR.out.mono ?_
          rintro e w2 ⟨v2, rfl, hr2, hb2, hm2, hg2⟩
          have HRN := Lib.hid hr2
          have HSN := Lib.hid (HSQ.out.step HVL.out HRO.out.ge hm2 hg2)
          clear hr2 hb2 hm2 hg2 p0 p1 p2 p3 p4 k0 k1 k2 k3 k4
          go_wp2_with fail
          go_roundg (x.f4.length - (i + 1))
          case measure => omega
          case rel => exact ⟨i + 1, _, _, by omega, Nat.le_refl _, by go_num, rfl, ⟨by rw [List.append_assoc]; have := HACC.out; rw [HSTEP.out, NX.out] at this; exact this⟩, ⟨HRN.out⟩, ⟨HSN.out⟩⟩
    | false =>
      have HSUM : Hid (l ++ depsFs (varB ls) d x.f4 = l ++ depsF (varB ls) d x) := Lib.hid (by rw [depsF_eq, if_neg (by rw [hV]; simp), List.nil_append])
      clear hV
      go_wp2_with fail
      clear p0 p1 p2 p3 p4
      go_loopg [0, 9, 10] x.f4.length (fun kq v0 v9 v10 w' => ∃ (i : Nat) (acc : List Int) (vv : Value), i ≤ x.f4.length ∧ x.f4.length - i ≤ kq ∧ v9 = .int .i64 i ∧ vv = v0 ∧ Aside0 (acc ++ depsFs (varB ls) d (x.f4.drop i) = l ++ depsF (varB ls) d x) ∧ Aside0 (RowI wB w' vv acc) ∧ Aside0 (SV wB w (.cells #[.int .i64 x.f0, .string x.f1, .int .i64 x.f2, .slice A3 x.f3.length Ac3, .slice A4 x.f4.length Ac4] 34 (0, 0)) v w' vv))
      case atStart => exact ⟨0, _, _, Nat.zero_le _, by omega, rfl, rfl, ⟨by rw [List.drop_zero]; exact HSUM.out⟩, ⟨HRW.out⟩, ⟨HSV.out⟩⟩
      case round =>
        obtain ⟨i, acc, vv, hi, hg, rfl, rfl, HACC, HRO, HST⟩ := hrel
        obtain ⟨p0, p1, p2, p3, p4⟩ := fm_cells HST.out.box
        by_cases hlt : i < x.f4.length
        rotate_left
        · obtain rfl : i = x.f4.length := by omega
          have HEQ : Hid (acc = l ++ depsF (varB ls) d x) := Lib.hid (by have := HACC.out; rwa [List.drop_length, depsFs, List.append_nil] at this)
          go_wp2_with fail
          clear p0 p1 p2 p3 p4
          go_ret
          exact ⟨_, rfl, by rw [← HEQ.out]; exact HRO.out, HST.out.bl, HST.out.mm, HST.out.gr.less (Nat.le_succ _)⟩
        obtain ⟨ad, X3, Xc3, X4, Xc4, e, g0, g1, g2, g3, g4, hk⟩ := kid_at HI.out.g4 i hlt
        subst e
        have k0 := ck0 HST.out.bl g0
        have k1 := ck0 HST.out.bl g1
        have k2 := ck0 HST.out.bl g2
        have k3 := ck0 HST.out.bl g3
        have k4 := ck0 HST.out.bl g4
        clear g0 g1 g2 g3 g4
        have hk := Lib.hid hk
        have HSTEP := Lib.hid (depsFs_drop (varB ls) d hlt)
        have HLN := Lib.hid (fun d2 => show (acc ++ depsF (varB ls) d2 x.f4[i]).length ≤ 3000000 by
          have h1 := congrArg List.length HACC.out
          rw [HSTEP.out, ← List.append_assoc, List.length_append, List.length_append, len_depsF] at h1
          rw [List.length_append, len_depsF]
          have h2 := HT2.out
          omega)
        have hwi : wrap64 ((i : Int) + 1) = ((i + 1 : Nat) : Int) := by rw [Go.IntWalk.wrap64_in _ ⟨by omega, by omega⟩]; omega
        have hwd : wrap64 (d + 1) = d + 1 := Go.IntWalk.wrap64_in _ ⟨by omega, by omega⟩
        by_cases hn : i + 1 < x.f4.length
        rotate_left
        · have NX : Hid (nextD d (x.f4.drop (i + 1)) = d) := Lib.hid (nextD_no d (fun h => absurd h hn))
          have t1 : decide (((i + 1 : Nat) : Int) < (x.f4.length : Int)) = false := decide_eq_false (by omega)
          have t1' : decide (i + 1 < x.f4.length) = false := decide_eq_false hn
          have HSQ := HST
          replace HLN := Lib.hid (HLN.out d)
          have HR := Lib.hid (IH.out x.f4[i] (List.getElem_mem hlt) (d) acc vv X3 Xc3 X4 Xc4 wr HSQ.out.bl HRO.out hk.out HLN.out (by omega) (by have := getKidT hlt; omega))
          go_wp2_with fail
          refine HR.out.mono ?_
          rintro e w2 ⟨v2, rfl, hr2, hb2, hm2, hg2⟩
          have HRN := Lib.hid hr2
          have HSN := Lib.hid (HSQ.out.step HVL.out HRO.out.ge hm2 hg2)
          clear hr2 hb2 hm2 hg2 p0 p1 p2 p3 p4 k0 k1 k2 k3 k4
          go_wp2_with fail
          go_roundg (x.f4.length - (i + 1))
          case measure => omega
          case rel => exact ⟨i + 1, _, _, by omega, Nat.le_refl _, by go_num, rfl, ⟨by rw [List.append_assoc]; have := HACC.out; rw [HSTEP.out, NX.out] at this; exact this⟩, ⟨HRN.out⟩, ⟨HSN.out⟩⟩
        obtain ⟨ad2, Y3, Yc3, Y4, Yc4, e2, h0, h1, h2, h3, h4, hk2⟩ := kid_at HI.out.g4 (i + 1) hn
        obtain rfl : ad = ad2 := by injection e2
        clear e2
        have m0 := ck0 HST.out.bl h0
        have m1 := ck0 HST.out.bl h1
        have m2 := ck0 HST.out.bl h2
        have m3 := ck0 HST.out.bl h3
        have m4 := ck0 HST.out.bl h4
        clear h0 h1 h2 h3 h4
        have t1 : decide (((i + 1 : Nat) : Int) < (x.f4.length : Int)) = true := decide_eq_true (by omega)
        have t1' : decide (i + 1 < x.f4.length) = true := decide_eq_true hn
        have c1 : (0 : Int) ≤ ((i + 1 : Nat) : Int) := by omega
        have c2 : ((i + 1 : Nat) : Int) < (x.f4.length : Int) := by omega
        have HDT := Lib.hid (specDots_any x.f4[i + 1] Y3 Yc3 Y4 Yc4 wr (hk2.below HST.out.bl))
        clear hk2
        cases hd : dotsB x.f4[i + 1] with
        | false =>
          rw [hd] at HDT
          have NX : Hid (nextD d (x.f4.drop (i + 1)) = d) := Lib.hid (nextD_no d (fun h => hd))
          clear hd
          go_wp2_with fail
          refine HDT.out.mono ?_
          rintro e wq ⟨rfl, bq⟩
          have HBQ := Lib.hid bq
          have HSQ := Lib.hid (HST.out.quiet bq)
          clear bq p0 p1 p2 p3 p4 k0 k1 k2 k3 k4 m0 m1 m2 m3 m4
          obtain ⟨p0, p1, p2, p3, p4⟩ := fm_cells HSQ.out.box
          obtain ⟨ad2, X3, Xc3, X4, Xc4, e2, k0, k1, k2, k3, k4, hk⟩ := kid_at HI.out.g4 i hlt
          obtain rfl : ad = ad2 := by injection e2
          clear e2
          replace k0 := ck0 HSQ.out.bl k0
          replace k1 := ck0 HSQ.out.bl k1
          replace k2 := ck0 HSQ.out.bl k2
          replace k3 := ck0 HSQ.out.bl k3
          replace k4 := ck0 HSQ.out.bl k4
          have hk := Lib.hid hk
          replace HLN := Lib.hid (HLN.out d)
          have HR := Lib.hid (IH.out x.f4[i] (List.getElem_mem hlt) (d) acc vv X3 Xc3 X4 Xc4 wq HSQ.out.bl (HRO.out.move (fun k hk => HBQ.out.block k (HRO.out.lt k hk))) hk.out HLN.out (by omega) (by have := getKidT hlt; omega))
          go_wp2_with fail
          refine HR.out.mono ?_
          rintro e w2 ⟨v2, rfl, hr2, hb2, hm2, hg2⟩
          have HRN := Lib.hid hr2
          have HSN := Lib.hid (HSQ.out.step HVL.out HRO.out.ge hm2 hg2)
          clear hr2 hb2 hm2 hg2 p0 p1 p2 p3 p4 k0 k1 k2 k3 k4
          go_wp2_with fail
          go_roundg (x.f4.length - (i + 1))
          case measure => omega
          case rel => exact ⟨i + 1, _, _, by omega, Nat.le_refl _, by go_num, rfl, ⟨by rw [List.append_assoc]; have := HACC.out; rw [HSTEP.out, NX.out] at this; exact this⟩, ⟨HRN.out⟩, ⟨HSN.out⟩⟩
        | true =>
          rw [hd] at HDT
          have NX : Hid (nextD d (x.f4.drop (i + 1)) = d + 1) := Lib.hid (nextD_yes d hn hd)
          clear hd
          go_wp2_with fail
          refine HDT.out.mono ?_
          rintro e wq ⟨rfl, bq⟩
          have HBQ := Lib.hid bq
          have HSQ := Lib.hid (HST.out.quiet bq)
          clear bq p0 p1 p2 p3 p4 k0 k1 k2 k3 k4 m0 m1 m2 m3 m4
          obtain ⟨p0, p1, p2, p3, p4⟩ := fm_cells HSQ.out.box
          obtain ⟨ad2, X3, Xc3, X4, Xc4, e2, k0, k1, k2, k3, k4, hk⟩ := kid_at HI.out.g4 i hlt
          obtain rfl : ad = ad2 := by injection e2
          clear e2
          replace k0 := ck0 HSQ.out.bl k0
          replace k1 := ck0 HSQ.out.bl k1
          replace k2 := ck0 HSQ.out.bl k2
          replace k3 := ck0 HSQ.out.bl k3
          replace k4 := ck0 HSQ.out.bl k4
          have hk := Lib.hid hk
          replace HLN := Lib.hid (HLN.out (d + 1))
          have HR := Lib.hid (IH.out x.f4[i] (List.getElem_mem hlt) (d + 1) acc vv X3 Xc3 X4 Xc4 wq HSQ.out.bl (HRO.out.move (fun k hk => HBQ.out.block k (HRO.out.lt k hk))) hk.out HLN.out (by omega) (by have := getKidT hlt; omega))
          go_wp2_with fail
          refine HR.out.mono ?_
          rintro e w2 ⟨v2, rfl, hr2, hb2, hm2, hg2⟩
          have HRN := Lib.hid hr2
          have HSN := Lib.hid (HSQ.out.step HVL.out HRO.out.ge hm2 hg2)
          clear hr2 hb2 hm2 hg2 p0 p1 p2 p3 p4 k0 k1 k2 k3 k4
          go_wp2_with fail
          go_roundg (x.f4.length - (i + 1))
          case measure => omega
          case rel => exact ⟨i + 1, _, _, by omega, Nat.le_refl _, by go_num, rfl, ⟨by rw [List.append_assoc]; have := HACC.out; rw [HSTEP.out, NX.out] at this; exact this⟩, ⟨HRN.out⟩, ⟨HSN.out⟩⟩
end Go.Proofs.Ytlklclebjeeaaaa
end
