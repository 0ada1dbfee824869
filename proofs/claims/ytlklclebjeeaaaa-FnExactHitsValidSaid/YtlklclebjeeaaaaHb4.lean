/- Words for the laws' proofs (part 4): contracts of functions, and plain lemmas. -/
import Derived.Deep.Slices
import Derived.KernelRfl
import Derived.Lib.SmallJoins
import Derived.OpenShut
import Derived.ProofKit
import Derived.Test.YtlklclebjeeaaaaProg
import Derived.Test.YtlklclebjeeaaaaHb1
import Derived.Test.YtlklclebjeeaaaaHb2
import Derived.Test.YtlklclebjeeaaaaHb3
section
namespace Go.Proofs.Ytlklclebjeeaaaa.Q
open Go.RowKit Go.Proofs.YtlklclebjeeaaaaW.PrintWords Go.Proofs.YtlklclebjeeaaaaW.PrintLast Go.Proofs.YtlklclebjeeaaaaW.PrintMore
attribute [local go_sem] max2_int min2_int max_two min_two max_three min_three max_four min_four   -- for this text's walks alone
set_option linter.unusedVariables false
set_option linter.unusedSimpArgs false

mutual
noncomputable def spec_HitsValid.l0 : Nat → List (S80) → Int → Option (Bool)
  | 0, _, _ => none
  | k + 1, x0, x3 => if x3 < (x0.length : Int) then (spec_HitsValid.j1 k x0 x3 (decide (x3 ≤ 20))) else (spec_HitsValid.j1 k x0 x3 false)
noncomputable def spec_HitsValid.j1 : Nat → List (S80) → Int → Bool → Option (Bool)
  | 0, _, _, _ => none
  | k + 1, x0, x3, x12 => if x12 = true then (if 0 ≤ x3 then (if x3 < (x0.length : Int) then ((spec_l4Hit.f k ((rd_T80 x0 x3).f0.f0) ((rd_T80 x0 x3).f0.f1) ((rd_T80 x0 x3).f0.f2) ((rd_T80 x0 x3).f0.f3) ((rd_T80 x0 x3).f0.f4) ((rd_T80 x0 x3).f1) ((rd_T80 x0 x3).f2.f0) ((rd_T80 x0 x3).f2.f1) ((rd_T80 x0 x3).f2.f2) ((rd_T80 x0 x3).f2.f3) ((rd_T80 x0 x3).f2.f4) ((rd_T80 x0 x3).f3) ((rd_T80 x0 x3).f1)).bind fun t178 => (if t178 = true then (spec_HitsValid.l1 k x0 x3 0) else (some false))) else (none)) else (none)) else (some (decide ((x0.length : Int) ≤ 20)))
noncomputable def spec_HitsValid.l1 : Nat → List (S80) → Int → Int → Option (Bool)
  | 0, _, _, _ => none
  | k + 1, x0, x3, x4 => if x4 < x3 then (if 0 ≤ x4 then (if x4 < (x0.length : Int) then (if 0 ≤ x3 then (if x3 < (x0.length : Int) then ((spec_FormSame.f ((rd_T80 x0 x4).f0.f0) ((rd_T80 x0 x4).f0.f1) ((rd_T80 x0 x4).f0.f2) ((rd_T80 x0 x4).f0.f3) ((rd_T80 x0 x4).f0.f4) ((rd_T80 x0 x3).f0.f0) ((rd_T80 x0 x3).f0.f1) ((rd_T80 x0 x3).f0.f2) ((rd_T80 x0 x3).f0.f3) ((rd_T80 x0 x3).f0.f4)).bind fun t181 => (if t181 = true then (some false) else (spec_HitsValid.l1 k x0 x3 (wrap64 (x4 + 1))))) else (none)) else (none)) else (none)) else (none)) else (spec_HitsValid.l0 k x0 (wrap64 (x3 + 1)))
end
noncomputable def spec_HitsValid.f (k : Nat) (l0 : List (S80)) : Option (Bool) := spec_HitsValid.l0 k l0 0
theorem spec_HitsValid.mono_l : ∀ k, (∀ y0 y1, LeO (spec_HitsValid.l0 k y0 y1) (spec_HitsValid.l0 (k + 1) y0 y1)) ∧ (∀ y0 y1 y2, LeO (spec_HitsValid.j1 k y0 y1 y2) (spec_HitsValid.j1 (k + 1) y0 y1 y2)) ∧ (∀ y0 y1 y2, LeO (spec_HitsValid.l1 k y0 y1 y2) (spec_HitsValid.l1 (k + 1) y0 y1 y2))
  | 0 => ⟨fun _ _ r h => by simp [spec_HitsValid.l0] at h, fun _ _ _ r h => by simp [spec_HitsValid.j1] at h, fun _ _ _ r h => by simp [spec_HitsValid.l1] at h⟩
  | k + 1 => by
    obtain ⟨ih0, ih1, ih2⟩ := spec_HitsValid.mono_l k
    refine ⟨?_, ?_, ?_⟩
    · intro y0 y1
      unfold spec_HitsValid.l0
      repeat' first
      | (with_reducible exact ih0 _ _)
      | (with_reducible exact ih1 _ _ _)
      | (with_reducible exact ih2 _ _ _)
      | (with_reducible exact spec_l4Hit.mono _ _ _ _ _ _ _ _ _ _ _ _ _ _)
      | (with_reducible exact LeO.refl _)
      | (with_reducible exact LeO.none _)
      | (with_reducible refine LeO.ite ?_ ?_)
      | (with_reducible refine LeO.bind ?_ (fun _ => ?_))
      | exact ih0 _ _
      | exact ih1 _ _ _
      | exact ih2 _ _ _
      | exact spec_l4Hit.mono _ _ _ _ _ _ _ _ _ _ _ _ _ _
      | exact LeO.none _
      | refine LeO.ite ?_ ?_
      | refine LeO.bind ?_ (fun _ => ?_)
    · intro y0 y1 y2
      unfold spec_HitsValid.j1
      repeat' first
      | (with_reducible exact ih0 _ _)
      | (with_reducible exact ih1 _ _ _)
      | (with_reducible exact ih2 _ _ _)
      | (with_reducible exact spec_l4Hit.mono _ _ _ _ _ _ _ _ _ _ _ _ _ _)
      | (with_reducible exact LeO.refl _)
      | (with_reducible exact LeO.none _)
      | (with_reducible refine LeO.ite ?_ ?_)
      | (with_reducible refine LeO.bind ?_ (fun _ => ?_))
      | exact ih0 _ _
      | exact ih1 _ _ _
      | exact ih2 _ _ _
      | exact spec_l4Hit.mono _ _ _ _ _ _ _ _ _ _ _ _ _ _
      | exact LeO.none _
      | refine LeO.ite ?_ ?_
      | refine LeO.bind ?_ (fun _ => ?_)
    · intro y0 y1 y2
      unfold spec_HitsValid.l1
      repeat' first
      | (with_reducible exact ih0 _ _)
      | (with_reducible exact ih1 _ _ _)
      | (with_reducible exact ih2 _ _ _)
      | (with_reducible exact spec_l4Hit.mono _ _ _ _ _ _ _ _ _ _ _ _ _ _)
      | (with_reducible exact LeO.refl _)
      | (with_reducible exact LeO.none _)
      | (with_reducible refine LeO.ite ?_ ?_)
      | (with_reducible refine LeO.bind ?_ (fun _ => ?_))
      | exact ih0 _ _
      | exact ih1 _ _ _
      | exact ih2 _ _ _
      | exact spec_l4Hit.mono _ _ _ _ _ _ _ _ _ _ _ _ _ _
      | exact LeO.none _
      | refine LeO.ite ?_ ?_
      | refine LeO.bind ?_ (fun _ => ?_)
theorem spec_HitsValid.mono : ∀ a0 k, LeO (spec_HitsValid.f k a0) (spec_HitsValid.f (k + 1) a0) := by
  intro a0 k
  obtain ⟨ih0, ih1, ih2⟩ := spec_HitsValid.mono_l k
  unfold spec_HitsValid.f
  repeat' first
      | (with_reducible exact ih0 _ _)
      | (with_reducible exact ih1 _ _ _)
      | (with_reducible exact ih2 _ _ _)
      | (with_reducible exact spec_l4Hit.mono _ _ _ _ _ _ _ _ _ _ _ _ _ _)
      | (with_reducible exact LeO.refl _)
      | (with_reducible exact LeO.none _)
      | (with_reducible refine LeO.ite ?_ ?_)
      | (with_reducible refine LeO.bind ?_ (fun _ => ?_))
      | exact ih0 _ _
      | exact ih1 _ _ _
      | exact ih2 _ _ _
      | exact spec_l4Hit.mono _ _ _ _ _ _ _ _ _ _ _ _ _ _
      | exact LeO.none _
      | refine LeO.ite ?_ ?_
      | refine LeO.bind ?_ (fun _ => ?_)
noncomputable def spec_HitsValid.T4 : Bool × List (List Nat × List Nat) := (true, [([], []), ([], []), ([0, 1], [0, 1]), ([2], [2]), ([], []), ([], []), ([4, 5], [4, 5]), ([6], [6]), ([7], [7]), ([3, 8], [3, 8]), ([9], [9])])
noncomputable def spec_HitsValid.B4 : List Nat := [0, 0, 3, 7, 0, 0, 48, 112, 240, 511, 1023]
theorem spec_HitsValid.tab4 : rtab .any (opsOf Try.f33 4) = spec_HitsValid.T4 := by kernel_rfl
theorem spec_HitsValid.bits4 : waitsOk spec_HitsValid.T4.2 spec_HitsValid.B4 = true := by kernel_rfl
noncomputable def spec_HitsValid.T9 : Bool × List (List Nat × List Nat) := (true, [([], []), ([], []), ([0, 1], [0, 1]), ([2], [2]), ([3], [3]), ([], []), ([], []), ([5, 6], [5, 6]), ([7], [7]), ([8], [8]), ([4, 9], [4, 9])])
noncomputable def spec_HitsValid.B9 : List Nat := [0, 0, 3, 7, 15, 0, 0, 96, 224, 480, 1023]
theorem spec_HitsValid.tab9 : rtab .any (opsOf Try.f33 9) = spec_HitsValid.T9 := by kernel_rfl
theorem spec_HitsValid.bits9 : waitsOk spec_HitsValid.T9.2 spec_HitsValid.B9 = true := by kernel_rfl
set_option maxHeartbeats 8000000 in
set_option maxRecDepth 100000 in
theorem spec_HitsValid.calls (k : Nat) (A0 : Option Addr) (c0 : Nat) (l0 : List (S80)) (r : Bool) (w : World) (hr0 : Kd.C k80 w A0 l0.length l0) (hc0 : l0.length ≤ c0) (h : spec_HitsValid.f k l0 = some r) :
    Calls Try.prog 33 #[.slice A0 l0.length c0] w fun e w' => e = .returned (.bool r) ∧ Below w.heap.size w w' := by
  have hu80 := Try.underlying80
  have hu34 := Try.underlying34
  have HR0 := Aside0.mk hr0
  have HC0 := Aside0.mk hc0
  clear hr0 hc0
  have HB := Aside0.mk (Below.refl w.heap.size w)
  have H : (spec_HitsValid.l0 k l0 0) = some r := h
  clear h
  have H' := Aside0.mk H
  clear H
  go_enter Try.func33, Try.ntmps33
  go_wp2
  go_loopg [3] k (fun kq v3 w' => ∃ (x3_1 : Int), v3 = .int .i64 x3_1 ∧ Aside0 (spec_HitsValid.l0 kq l0 x3_1 = some r) ∧ Aside0 (kq ≤ k) ∧ Aside0 (Below w.heap.size w w'))
  case atStart => exact ⟨(0), (by first | rfl | (simp; done) | (simp [*]; done)), H', ⟨Nat.le_refl _⟩, ⟨by repeat (first | (with_reducible first | exact HB.out | apply below_alloc | apply pw_below_drewN | apply below_drew1) | exact HB.out)⟩⟩
  case round =>
    clear H'
    obtain ⟨x3_1, rfl, HA, HK1, HB⟩ := hrel
    cases gk with
    | zero => exact absurd HA.out (by simp [spec_HitsValid.l0])
    | succ k1 =>
      have H := HA.out
      clear HA
      simp only [spec_HitsValid.l0] at H
      have HC2 := Aside0.mk H
      clear H
      go_upto_region 2 with (fail)
      go_cut [12] (fun v12 wc => ∃ (kq : Nat) (x12_1 : Bool), v12 = .bool x12_1 ∧ Aside0 (spec_HitsValid.j1 kq l0 x3_1 x12_1 = some r) ∧ Aside0 (kq ≤ k1) ∧ Aside0 (Below w.heap.size w wc))
      case first =>
        have H := HC2.out
        clear HC2
        by_cases c3 : x3_1 < (l0.length : Int)
        · rw [if_pos c3] at H
          have c3b0 : decide (x3_1 < (l0.length : Int)) = true := decide_eq_true c3
          clear c3
          (first | rw [c3b0] | (simp only [i64_w, i32_w]; rw [c3b0]) | skip)
          have H' := Aside0.mk H
          clear H
          go_wp2
          go_meet
          case rel => exact ⟨_, (decide (x3_1 ≤ 20)), (by first | rfl | (simp; done) | (simp [*]; done)), H', ⟨by have := HK1.out; first | omega | exact Nat.le_refl _⟩, ⟨by repeat (first | (with_reducible first | exact HB.out | apply below_alloc | apply pw_below_drewN | apply below_drew1) | exact HB.out)⟩⟩
        · rw [if_neg c3] at H
          have c3b0 : decide (x3_1 < (l0.length : Int)) = false := decide_eq_false c3
          clear c3
          (first | rw [c3b0] | (simp only [i64_w, i32_w]; rw [c3b0]) | skip)
          have H' := Aside0.mk H
          clear H
          go_wp2
          go_meet
          case rel => exact ⟨_, (false), (by first | rfl | (simp; done) | (simp [*]; done)), H', ⟨by have := HK1.out; first | omega | exact Nat.le_refl _⟩, ⟨by repeat (first | (with_reducible first | exact HB.out | apply below_alloc | apply pw_below_drewN | apply below_drew1) | exact HB.out)⟩⟩
      case rest =>
        clear HC2
        try clear p2
        try clear c3
        try clear c3b0
        obtain ⟨kq, x12_1, rfl, HA, HJ1, HB⟩ := hcut
        cases kq with
        | zero => exact absurd HA.out (by simp [spec_HitsValid.j1])
        | succ kj1 =>
          have H := HA.out
          clear HA
          simp only [spec_HitsValid.j1] at H
          by_cases c4 : x12_1 = true
          · subst c4
            have H1 : (if 0 ≤ x3_1 then (if x3_1 < (l0.length : Int) then ((spec_l4Hit.f kj1 ((rd_T80 l0 x3_1).f0.f0) ((rd_T80 l0 x3_1).f0.f1) ((rd_T80 l0 x3_1).f0.f2) ((rd_T80 l0 x3_1).f0.f3) ((rd_T80 l0 x3_1).f0.f4) ((rd_T80 l0 x3_1).f1) ((rd_T80 l0 x3_1).f2.f0) ((rd_T80 l0 x3_1).f2.f1) ((rd_T80 l0 x3_1).f2.f2) ((rd_T80 l0 x3_1).f2.f3) ((rd_T80 l0 x3_1).f2.f4) ((rd_T80 l0 x3_1).f3) ((rd_T80 l0 x3_1).f1)).bind fun t178 => (if t178 = true then (spec_HitsValid.l1 kj1 l0 x3_1 0) else (some false))) else (none)) else (none)) = some r := by rw [if_pos rfl] at H; exact H
            clear H
            have H := H1
            clear H1
            by_cases c5 : 0 ≤ x3_1
            · rw [if_pos c5] at H
              have c5b0 : decide (0 ≤ x3_1) = true := decide_eq_true c5
              clear c5
              by_cases c6 : x3_1 < (l0.length : Int)
              · rw [if_pos c6] at H
                have c6b0 : decide (x3_1 < (l0.length : Int)) = true := decide_eq_true c6
                clear c6
                replace H := Option.bind_eq_some_iff.mp H
                obtain ⟨t178, A70, H⟩ := H
                replace H : (if t178 = true then (spec_HitsValid.l1 kj1 l0 x3_1 0) else (some false)) = some r := H
                have A7 := Aside0.mk A70
                clear A70
                by_cases c8 : t178 = true
                · subst c8
                  have H1 : (spec_HitsValid.l1 kj1 l0 x3_1 0) = some r := by rw [if_pos rfl] at H; exact H
                  clear H
                  have H := H1
                  clear H1
                  have H' := Aside0.mk H
                  clear H
                  try go_wp2
                  have n0_ := Aside0.mk (below_drew1 HB.out)
                  clear HB
                  have HB := n0_
                  clear n0_
                  have p176 : 0 ≤ (x3_1 : Int) := of_decide_eq_true (by first | (with_reducible assumption) | assumption)
                  have q176 : x3_1 < (l0.length : Int) := of_decide_eq_true (by first | (with_reducible assumption) | assumption)
                  obtain ⟨ad176, A176_3, c176_3, A176_4, c176_4, A176_9, c176_9, A176_10, c176_10, A176_11, c176_11, e176, hx176_0, hx176_1, hx176_2, hx176_3, hx176_4, hx176_5, hx176_6, hx176_7, hx176_8, hx176_9, hx176_10, hx176_11, hl176_3, hi176_3, hl176_4, hi176_4, hl176_9, hi176_9, hl176_10, hi176_10, hl176_11, hi176_11⟩ := at_T80 HR0.out x3_1 p176 q176
                  have hw176_11 := hx176_11
                  have hw176_10 := hx176_10
                  have hw176_9 := hx176_9
                  have hw176_8 := hx176_8
                  have hw176_7 := hx176_7
                  have hw176_6 := hx176_6
                  have hw176_5 := hx176_5
                  have hw176_4 := hx176_4
                  have hw176_3 := hx176_3
                  have hw176_2 := hx176_2
                  have hw176_1 := hx176_1
                  have hw176_0 := hx176_0
                  cases e176
                  replace hx176_0 := (HB.out.cell (World.block_lt_of_cell? w _ hx176_0)).trans hx176_0
                  replace hx176_1 := (HB.out.cell (World.block_lt_of_cell? w _ hx176_1)).trans hx176_1
                  replace hx176_2 := (HB.out.cell (World.block_lt_of_cell? w _ hx176_2)).trans hx176_2
                  replace hx176_3 := (HB.out.cell (World.block_lt_of_cell? w _ hx176_3)).trans hx176_3
                  replace hx176_4 := (HB.out.cell (World.block_lt_of_cell? w _ hx176_4)).trans hx176_4
                  replace hx176_5 := (HB.out.cell (World.block_lt_of_cell? w _ hx176_5)).trans hx176_5
                  replace hx176_6 := (HB.out.cell (World.block_lt_of_cell? w _ hx176_6)).trans hx176_6
                  replace hx176_7 := (HB.out.cell (World.block_lt_of_cell? w _ hx176_7)).trans hx176_7
                  replace hx176_8 := (HB.out.cell (World.block_lt_of_cell? w _ hx176_8)).trans hx176_8
                  replace hx176_9 := (HB.out.cell (World.block_lt_of_cell? w _ hx176_9)).trans hx176_9
                  replace hx176_10 := (HB.out.cell (World.block_lt_of_cell? w _ hx176_10)).trans hx176_10
                  replace hx176_11 := (HB.out.cell (World.block_lt_of_cell? w _ hx176_11)).trans hx176_11
                  have HR176_3 := Aside0.mk hi176_3
                  have HC176_3 := Aside0.mk hl176_3
                  clear hi176_3 hl176_3
                  have HR176_4 := Aside0.mk hi176_4
                  have HC176_4 := Aside0.mk hl176_4
                  clear hi176_4 hl176_4
                  have HR176_9 := Aside0.mk hi176_9
                  have HC176_9 := Aside0.mk hl176_9
                  clear hi176_9 hl176_9
                  have HR176_10 := Aside0.mk hi176_10
                  have HC176_10 := Aside0.mk hl176_10
                  clear hi176_10 hl176_10
                  have HR176_11 := Aside0.mk hi176_11
                  have HC176_11 := Aside0.mk hl176_11
                  clear hi176_11 hl176_11
                  replace p176 := eq_true p176
                  replace q176 := eq_true q176
                  have p177 : 0 ≤ (x3_1 : Int) := of_decide_eq_true (by first | (with_reducible assumption) | assumption)
                  have q177 : x3_1 < (l0.length : Int) := of_decide_eq_true (by first | (with_reducible assumption) | assumption)
                  obtain ⟨ad177, A177_3, c177_3, A177_4, c177_4, A177_9, c177_9, A177_10, c177_10, A177_11, c177_11, e177, hx177_0, hx177_1, hx177_2, hx177_3, hx177_4, hx177_5, hx177_6, hx177_7, hx177_8, hx177_9, hx177_10, hx177_11, hl177_3, hi177_3, hl177_4, hi177_4, hl177_9, hi177_9, hl177_10, hi177_10, hl177_11, hi177_11⟩ := at_T80 HR0.out x3_1 p177 q177
                  have hw177_11 := hx177_11
                  have hw177_10 := hx177_10
                  have hw177_9 := hx177_9
                  have hw177_8 := hx177_8
                  have hw177_7 := hx177_7
                  have hw177_6 := hx177_6
                  have hw177_5 := hx177_5
                  have hw177_4 := hx177_4
                  have hw177_3 := hx177_3
                  have hw177_2 := hx177_2
                  have hw177_1 := hx177_1
                  have hw177_0 := hx177_0
                  obtain rfl : ad176 = ad177 := (by injection e177)
                  replace hx177_0 := (HB.out.cell (World.block_lt_of_cell? w _ hx177_0)).trans hx177_0
                  replace hx177_1 := (HB.out.cell (World.block_lt_of_cell? w _ hx177_1)).trans hx177_1
                  replace hx177_2 := (HB.out.cell (World.block_lt_of_cell? w _ hx177_2)).trans hx177_2
                  replace hx177_3 := (HB.out.cell (World.block_lt_of_cell? w _ hx177_3)).trans hx177_3
                  replace hx177_4 := (HB.out.cell (World.block_lt_of_cell? w _ hx177_4)).trans hx177_4
                  replace hx177_5 := (HB.out.cell (World.block_lt_of_cell? w _ hx177_5)).trans hx177_5
                  replace hx177_6 := (HB.out.cell (World.block_lt_of_cell? w _ hx177_6)).trans hx177_6
                  replace hx177_7 := (HB.out.cell (World.block_lt_of_cell? w _ hx177_7)).trans hx177_7
                  replace hx177_8 := (HB.out.cell (World.block_lt_of_cell? w _ hx177_8)).trans hx177_8
                  replace hx177_9 := (HB.out.cell (World.block_lt_of_cell? w _ hx177_9)).trans hx177_9
                  replace hx177_10 := (HB.out.cell (World.block_lt_of_cell? w _ hx177_10)).trans hx177_10
                  replace hx177_11 := (HB.out.cell (World.block_lt_of_cell? w _ hx177_11)).trans hx177_11
                  have HR177_3 := Aside0.mk hi177_3
                  have HC177_3 := Aside0.mk hl177_3
                  clear hi177_3 hl177_3
                  have HR177_4 := Aside0.mk hi177_4
                  have HC177_4 := Aside0.mk hl177_4
                  clear hi177_4 hl177_4
                  have HR177_9 := Aside0.mk hi177_9
                  have HC177_9 := Aside0.mk hl177_9
                  clear hi177_9 hl177_9
                  have HR177_10 := Aside0.mk hi177_10
                  have HC177_10 := Aside0.mk hl177_10
                  clear hi177_10 hl177_10
                  have HR177_11 := Aside0.mk hi177_11
                  have HC177_11 := Aside0.mk hl177_11
                  clear hi177_11 hl177_11
                  replace p177 := eq_true p177
                  replace q177 := eq_true q177
                  have ea_ := Option.some.inj (hx176_3.symm.trans hx177_3)
                  injection ea_ with ea_ en_ ec_
                  subst ea_
                  subst ec_
                  clear en_
                  have ea_ := Option.some.inj (hx176_4.symm.trans hx177_4)
                  injection ea_ with ea_ en_ ec_
                  subst ea_
                  subst ec_
                  clear en_
                  have ea_ := Option.some.inj (hx176_9.symm.trans hx177_9)
                  injection ea_ with ea_ en_ ec_
                  subst ea_
                  subst ec_
                  clear en_
                  have ea_ := Option.some.inj (hx176_10.symm.trans hx177_10)
                  injection ea_ with ea_ en_ ec_
                  subst ea_
                  subst ec_
                  clear en_
                  have ea_ := Option.some.inj (hx176_11.symm.trans hx177_11)
                  injection ea_ with ea_ en_ ec_
                  subst ea_
                  subst ec_
                  clear en_
                  refine start_ (n := 11) (S := fun w' => w'.cell? (ad176.add ((x3_1).toNat * 12)) = some (.int .i64 ((rd_T80 l0 x3_1).f0.f0)) ∧ w'.cell? ⟨(ad176.add ((x3_1).toNat * 12)).block, (ad176.add ((x3_1).toNat * 12)).off + 1, none⟩ = some (.string ((rd_T80 l0 x3_1).f0.f1)) ∧ w'.cell? ⟨(ad176.add ((x3_1).toNat * 12)).block, (ad176.add ((x3_1).toNat * 12)).off + 2, none⟩ = some (.int .i64 ((rd_T80 l0 x3_1).f0.f2)) ∧ w'.cell? ⟨(ad176.add ((x3_1).toNat * 12)).block, (ad176.add ((x3_1).toNat * 12)).off + 3, none⟩ = some (.slice A176_3 ((rd_T80 l0 x3_1).f0.f3).length c176_3) ∧ w'.cell? ⟨(ad176.add ((x3_1).toNat * 12)).block, (ad176.add ((x3_1).toNat * 12)).off + 4, none⟩ = some (.slice A176_4 ((rd_T80 l0 x3_1).f0.f4).length c176_4) ∧ w'.cell? ⟨(ad176.add ((x3_1).toNat * 12)).block, (ad176.add ((x3_1).toNat * 12)).off + 5, none⟩ = some (.int .i64 ((rd_T80 l0 x3_1).f1)) ∧ w'.cell? ⟨(ad176.add ((x3_1).toNat * 12)).block, (ad176.add ((x3_1).toNat * 12)).off + 6, none⟩ = some (.int .i64 ((rd_T80 l0 x3_1).f2.f0)) ∧ w'.cell? ⟨(ad176.add ((x3_1).toNat * 12)).block, (ad176.add ((x3_1).toNat * 12)).off + 7, none⟩ = some (.string ((rd_T80 l0 x3_1).f2.f1)) ∧ w'.cell? ⟨(ad176.add ((x3_1).toNat * 12)).block, (ad176.add ((x3_1).toNat * 12)).off + 8, none⟩ = some (.int .i64 ((rd_T80 l0 x3_1).f2.f2)) ∧ w'.cell? ⟨(ad176.add ((x3_1).toNat * 12)).block, (ad176.add ((x3_1).toNat * 12)).off + 9, none⟩ = some (.slice A176_9 ((rd_T80 l0 x3_1).f2.f3).length c176_9) ∧ w'.cell? ⟨(ad176.add ((x3_1).toNat * 12)).block, (ad176.add ((x3_1).toNat * 12)).off + 10, none⟩ = some (.slice A176_10 ((rd_T80 l0 x3_1).f2.f4).length c176_10) ∧ w'.cell? ⟨(ad176.add ((x3_1).toNat * 12)).block, (ad176.add ((x3_1).toNat * 12)).off + 11, none⟩ = some (.slice A176_11 ((rd_T80 l0 x3_1).f3).length c176_11) ∧ w'.cell? (ad176.add ((x3_1).toNat * 12)) = some (.int .i64 ((rd_T80 l0 x3_1).f0.f0)) ∧ w'.cell? ⟨(ad176.add ((x3_1).toNat * 12)).block, (ad176.add ((x3_1).toNat * 12)).off + 1, none⟩ = some (.string ((rd_T80 l0 x3_1).f0.f1)) ∧ w'.cell? ⟨(ad176.add ((x3_1).toNat * 12)).block, (ad176.add ((x3_1).toNat * 12)).off + 2, none⟩ = some (.int .i64 ((rd_T80 l0 x3_1).f0.f2)) ∧ w'.cell? ⟨(ad176.add ((x3_1).toNat * 12)).block, (ad176.add ((x3_1).toNat * 12)).off + 3, none⟩ = some (.slice A176_3 ((rd_T80 l0 x3_1).f0.f3).length c176_3) ∧ w'.cell? ⟨(ad176.add ((x3_1).toNat * 12)).block, (ad176.add ((x3_1).toNat * 12)).off + 4, none⟩ = some (.slice A176_4 ((rd_T80 l0 x3_1).f0.f4).length c176_4) ∧ w'.cell? ⟨(ad176.add ((x3_1).toNat * 12)).block, (ad176.add ((x3_1).toNat * 12)).off + 5, none⟩ = some (.int .i64 ((rd_T80 l0 x3_1).f1)) ∧ w'.cell? ⟨(ad176.add ((x3_1).toNat * 12)).block, (ad176.add ((x3_1).toNat * 12)).off + 6, none⟩ = some (.int .i64 ((rd_T80 l0 x3_1).f2.f0)) ∧ w'.cell? ⟨(ad176.add ((x3_1).toNat * 12)).block, (ad176.add ((x3_1).toNat * 12)).off + 7, none⟩ = some (.string ((rd_T80 l0 x3_1).f2.f1)) ∧ w'.cell? ⟨(ad176.add ((x3_1).toNat * 12)).block, (ad176.add ((x3_1).toNat * 12)).off + 8, none⟩ = some (.int .i64 ((rd_T80 l0 x3_1).f2.f2)) ∧ w'.cell? ⟨(ad176.add ((x3_1).toNat * 12)).block, (ad176.add ((x3_1).toNat * 12)).off + 9, none⟩ = some (.slice A176_9 ((rd_T80 l0 x3_1).f2.f3).length c176_9) ∧ w'.cell? ⟨(ad176.add ((x3_1).toNat * 12)).block, (ad176.add ((x3_1).toNat * 12)).off + 10, none⟩ = some (.slice A176_10 ((rd_T80 l0 x3_1).f2.f4).length c176_10) ∧ w'.cell? ⟨(ad176.add ((x3_1).toNat * 12)).block, (ad176.add ((x3_1).toNat * 12)).off + 11, none⟩ = some (.slice A176_11 ((rd_T80 l0 x3_1).f3).length c176_11)) (ds := []) #[false, false, false, false, false, false, false, false, false, false, false] (by kernel_rfl) rfl rfl ⟨((HB.out.cell (World.block_lt_of_cell? w _ hw176_0)).trans hw176_0), ((HB.out.cell (World.block_lt_of_cell? w _ hw176_1)).trans hw176_1), ((HB.out.cell (World.block_lt_of_cell? w _ hw176_2)).trans hw176_2), ((HB.out.cell (World.block_lt_of_cell? w _ hw176_3)).trans hw176_3), ((HB.out.cell (World.block_lt_of_cell? w _ hw176_4)).trans hw176_4), ((HB.out.cell (World.block_lt_of_cell? w _ hw176_5)).trans hw176_5), ((HB.out.cell (World.block_lt_of_cell? w _ hw176_6)).trans hw176_6), ((HB.out.cell (World.block_lt_of_cell? w _ hw176_7)).trans hw176_7), ((HB.out.cell (World.block_lt_of_cell? w _ hw176_8)).trans hw176_8), ((HB.out.cell (World.block_lt_of_cell? w _ hw176_9)).trans hw176_9), ((HB.out.cell (World.block_lt_of_cell? w _ hw176_10)).trans hw176_10), ((HB.out.cell (World.block_lt_of_cell? w _ hw176_11)).trans hw176_11), ((HB.out.cell (World.block_lt_of_cell? w _ hw177_0)).trans hw177_0), ((HB.out.cell (World.block_lt_of_cell? w _ hw177_1)).trans hw177_1), ((HB.out.cell (World.block_lt_of_cell? w _ hw177_2)).trans hw177_2), ((HB.out.cell (World.block_lt_of_cell? w _ hw177_3)).trans hw177_3), ((HB.out.cell (World.block_lt_of_cell? w _ hw177_4)).trans hw177_4), ((HB.out.cell (World.block_lt_of_cell? w _ hw177_5)).trans hw177_5), ((HB.out.cell (World.block_lt_of_cell? w _ hw177_6)).trans hw177_6), ((HB.out.cell (World.block_lt_of_cell? w _ hw177_7)).trans hw177_7), ((HB.out.cell (World.block_lt_of_cell? w _ hw177_8)).trans hw177_8), ((HB.out.cell (World.block_lt_of_cell? w _ hw177_9)).trans hw177_9), ((HB.out.cell (World.block_lt_of_cell? w _ hw177_10)).trans hw177_10), ((HB.out.cell (World.block_lt_of_cell? w _ hw177_11)).trans hw177_11)⟩ (fun hHeld => ?_); refine with_tabW spec_HitsValid.tab4 spec_HitsValid.bits4 (fun HT_ HW_ => ?_)
                  generalize wc.drew = w9 at HB HR176_10 HR176_11 HR176_3 HR176_4 HR176_9 HR177_10 HR177_11 HR177_3 HR177_4 HR177_9 hx176_0 hx176_1 hx176_10 hx176_11 hx176_2 hx176_3 hx176_4 hx176_5 hx176_6 hx176_7 hx176_8 hx176_9 hx177_0 hx177_1 hx177_10 hx177_11 hx177_2 hx177_3 hx177_4 hx177_5 hx177_6 hx177_7 hx177_8 hx177_9 hHeld ⊢
                  refine pure_ (i := 0) (N := some 15) (v := ?_) (a' := ?_) #[true, false, false, false, false, false, false, false, false, false, false] rfl rfl (any_of HT_.out (by kernel_rfl)) (fun _ _ _ h => h) (Or.inl ⟨by rfl, ?_⟩) ?_ ?_
                  rotate_left
                  · intro w'
                    go_simp
                    with_reducible rfl
                  rotate_left
                  · simp only [Act.put, List.setIfInBounds_toArray, List.set_cons_zero, List.set_cons_succ, i64_w, i32_w]
                    rfl
                  refine pure_ (i := 1) (N := some 16) (v := ?_) (a' := ?_) #[true, true, false, false, false, false, false, false, false, false, false] rfl rfl (any_of HT_.out (by kernel_rfl)) (fun _ _ _ h => h) (Or.inl ⟨by rfl, ?_⟩) ?_ ?_
                  rotate_left
                  · intro w'
                    go_simp
                    with_reducible rfl
                  rotate_left
                  · simp only [Act.put, List.setIfInBounds_toArray, List.set_cons_zero, List.set_cons_succ, i64_w, i32_w]
                    rfl
                  refine pure_ (i := 2) (N := some 17) (v := ?_) (a' := ?_) #[true, true, true, false, false, false, false, false, false, false, false] rfl rfl (any_of HT_.out (by kernel_rfl)) (fun _ _ _ h => h) (Or.inl ⟨by rfl, ?_⟩) ?_ ?_
                  rotate_left
                  · intro w'
                    go_simp
                    with_reducible rfl
                  rotate_left
                  · simp only [Act.put, List.setIfInBounds_toArray, List.set_cons_zero, List.set_cons_succ, i64_w, i32_w]
                    rfl
                  refine pure_ (i := 4) (N := some 19) (v := ?_) (a' := ?_) #[true, true, true, false, true, false, false, false, false, false, false] rfl rfl (any_of HT_.out (by kernel_rfl)) (fun _ _ _ h => h) (Or.inl ⟨by rfl, ?_⟩) ?_ ?_
                  rotate_left
                  · intro w'
                    go_simp
                    with_reducible rfl
                  rotate_left
                  · simp only [Act.put, List.setIfInBounds_toArray, List.set_cons_zero, List.set_cons_succ, i64_w, i32_w]
                    rfl
                  refine pure_ (i := 5) (N := some 20) (v := ?_) (a' := ?_) #[true, true, true, false, true, true, false, false, false, false, false] rfl rfl (any_of HT_.out (by kernel_rfl)) (fun _ _ _ h => h) (Or.inl ⟨by rfl, ?_⟩) ?_ ?_
                  rotate_left
                  · intro w'
                    go_simp
                    with_reducible rfl
                  rotate_left
                  · simp only [Act.put, List.setIfInBounds_toArray, List.set_cons_zero, List.set_cons_succ, i64_w, i32_w]
                    rfl
                  refine pure_ (i := 6) (N := some 21) (v := ?_) (a' := ?_) #[true, true, true, false, true, true, true, false, false, false, false] rfl rfl (any_of HT_.out (by kernel_rfl)) (fun _ _ _ h => h) (Or.inl ⟨by rfl, ?_⟩) ?_ ?_
                  rotate_left
                  · intro w'
                    go_simp
                    with_reducible rfl
                  rotate_left
                  · simp only [Act.put, List.setIfInBounds_toArray, List.set_cons_zero, List.set_cons_succ, i64_w, i32_w]
                    rfl
                  refine pure_ (i := 7) (N := some 22) (v := ?_) (a' := ?_) #[true, true, true, false, true, true, true, true, false, false, false] rfl rfl (any_of HT_.out (by kernel_rfl)) (fun _ _ _ h => h) (Or.inl ⟨by rfl, ?_⟩) ?_ ?_
                  rotate_left
                  · intro w'
                    go_simp
                    with_reducible rfl
                  rotate_left
                  · simp only [Act.put, List.setIfInBounds_toArray, List.set_cons_zero, List.set_cons_succ, i64_w, i32_w]
                    rfl
                  refine take_ (i := 3) (N := some 18) (v := ?_) (a' := ?_) #[true, true, true, true, true, true, true, true, false, false, false] rfl rfl (take_ofW HT_.out HW_.out (by kernel_rfl)) (fun _ _ _ h => h) (Or.inl ⟨by rfl, ?_⟩) hHeld ?_ ?_
                  rotate_left
                  · rintro w' ⟨s0, s1, s2, s3, s4, s5, s6, s7, s8, s9, s10, s11, s12, s13, s14, s15, s16, s17, s18, s19, s20, s21, s22, s23⟩
                    go_simp
                    with_reducible rfl
                  rotate_left
                  · simp only [Act.put, List.setIfInBounds_toArray, List.set_cons_zero, List.set_cons_succ, i64_w, i32_w]
                    rfl
                  refine take_ (i := 8) (N := some 23) (v := ?_) (a' := ?_) #[true, true, true, true, true, true, true, true, true, false, false] rfl rfl (take_ofW HT_.out HW_.out (by kernel_rfl)) (fun _ _ _ h => h) (Or.inl ⟨by rfl, ?_⟩) hHeld ?_ ?_
                  rotate_left
                  · rintro w' ⟨s0, s1, s2, s3, s4, s5, s6, s7, s8, s9, s10, s11, s12, s13, s14, s15, s16, s17, s18, s19, s20, s21, s22, s23⟩
                    go_simp
                    with_reducible rfl
                  rotate_left
                  · simp only [Act.put, List.setIfInBounds_toArray, List.set_cons_zero, List.set_cons_succ, i64_w, i32_w]
                    rfl
                  refine one_ (i := 9) (N := some 24) #[true, true, true, true, true, true, true, true, true, true, false] rfl rfl (one_of HT_.out (by kernel_rfl)) (by decide) (fun K hK => ?_)
                  refine goes_ Try.func68 (by kernel_rfl) rfl #[.agg #[.int .i64 ((rd_T80 l0 x3_1).f0.f0), .string ((rd_T80 l0 x3_1).f0.f1), .int .i64 ((rd_T80 l0 x3_1).f0.f2), .slice A176_3 ((rd_T80 l0 x3_1).f0.f3).length c176_3, .slice A176_4 ((rd_T80 l0 x3_1).f0.f4).length c176_4, .int .i64 ((rd_T80 l0 x3_1).f1), .int .i64 ((rd_T80 l0 x3_1).f2.f0), .string ((rd_T80 l0 x3_1).f2.f1), .int .i64 ((rd_T80 l0 x3_1).f2.f2), .slice A176_9 ((rd_T80 l0 x3_1).f2.f3).length c176_9, .slice A176_10 ((rd_T80 l0 x3_1).f2.f4).length c176_10, .slice A176_11 ((rd_T80 l0 x3_1).f3).length c176_11], .int .i64 ((rd_T80 l0 x3_1).f1)] (by rfl) rfl rfl (by (try simp only [List.map_toArray, List.map_cons, List.map_nil]); first | done | rfl | (simp only [List.length_drop, List.length_take]; rfl)) ?_
                  with_reducible refine (spec_l4Hit.calls kj1 ((rd_T80 l0 x3_1).f0.f0) ((rd_T80 l0 x3_1).f0.f1) ((rd_T80 l0 x3_1).f0.f2) _ _ ((rd_T80 l0 x3_1).f0.f3) _ _ ((rd_T80 l0 x3_1).f0.f4) ((rd_T80 l0 x3_1).f1) ((rd_T80 l0 x3_1).f2.f0) ((rd_T80 l0 x3_1).f2.f1) ((rd_T80 l0 x3_1).f2.f2) _ _ ((rd_T80 l0 x3_1).f2.f3) _ _ ((rd_T80 l0 x3_1).f2.f4) _ _ ((rd_T80 l0 x3_1).f3) ((rd_T80 l0 x3_1).f1) true _ ?side1 ?side2 ?side3 ?side4 ?side5 ?side6 ?side7 ?side8 ?side9 ?side10 A7.out).mono ?_
                  (case side1 => repeat (first | exact (Kd.C_below HR176_3.out HB.out) | (with_reducible refine Kd.C_alloc ?_ _) | (with_reducible refine Kd.C_drewN ?_ _) | (with_reducible refine Kd.C_drew ?_)))
                  (case side2 => exact HC176_3.out)
                  (case side3 => repeat (first | exact (Kd.C_below HR176_4.out HB.out) | (with_reducible refine Kd.C_alloc ?_ _) | (with_reducible refine Kd.C_drewN ?_ _) | (with_reducible refine Kd.C_drew ?_)))
                  (case side4 => exact HC176_4.out)
                  (case side5 => repeat (first | exact (Kd.C_below HR176_9.out HB.out) | (with_reducible refine Kd.C_alloc ?_ _) | (with_reducible refine Kd.C_drewN ?_ _) | (with_reducible refine Kd.C_drew ?_)))
                  (case side6 => exact HC176_9.out)
                  (case side7 => repeat (first | exact (Kd.C_below HR176_10.out HB.out) | (with_reducible refine Kd.C_alloc ?_ _) | (with_reducible refine Kd.C_drewN ?_ _) | (with_reducible refine Kd.C_drew ?_)))
                  (case side8 => exact HC176_10.out)
                  (case side9 => repeat (first | exact (Kd.C_below HR176_11.out HB.out) | (with_reducible refine Kd.C_alloc ?_ _) | (with_reducible refine Kd.C_drewN ?_ _) | (with_reducible refine Kd.C_drew ?_)))
                  (case side10 => exact HC176_11.out)
                  rintro e w10 ⟨rfl, hb⟩
                  refine ⟨_, rfl, ?_⟩
                  have n0_ := Aside0.mk (below_step (by repeat (first | (with_reducible first | exact HB.out | apply below_alloc | apply pw_below_drewN | apply below_drew1) | exact HB.out)) hb)
                  clear HB
                  have HB := n0_
                  clear n0_
                  (try clear hb)
                  (try clear hb2)
                  (try clear hk)
                  (try clear hi)
                  refine hK.out _ _ ⟨((HB.out.cell (World.block_lt_of_cell? w _ hw176_0)).trans hw176_0), ((HB.out.cell (World.block_lt_of_cell? w _ hw176_1)).trans hw176_1), ((HB.out.cell (World.block_lt_of_cell? w _ hw176_2)).trans hw176_2), ((HB.out.cell (World.block_lt_of_cell? w _ hw176_3)).trans hw176_3), ((HB.out.cell (World.block_lt_of_cell? w _ hw176_4)).trans hw176_4), ((HB.out.cell (World.block_lt_of_cell? w _ hw176_5)).trans hw176_5), ((HB.out.cell (World.block_lt_of_cell? w _ hw176_6)).trans hw176_6), ((HB.out.cell (World.block_lt_of_cell? w _ hw176_7)).trans hw176_7), ((HB.out.cell (World.block_lt_of_cell? w _ hw176_8)).trans hw176_8), ((HB.out.cell (World.block_lt_of_cell? w _ hw176_9)).trans hw176_9), ((HB.out.cell (World.block_lt_of_cell? w _ hw176_10)).trans hw176_10), ((HB.out.cell (World.block_lt_of_cell? w _ hw176_11)).trans hw176_11), ((HB.out.cell (World.block_lt_of_cell? w _ hw177_0)).trans hw177_0), ((HB.out.cell (World.block_lt_of_cell? w _ hw177_1)).trans hw177_1), ((HB.out.cell (World.block_lt_of_cell? w _ hw177_2)).trans hw177_2), ((HB.out.cell (World.block_lt_of_cell? w _ hw177_3)).trans hw177_3), ((HB.out.cell (World.block_lt_of_cell? w _ hw177_4)).trans hw177_4), ((HB.out.cell (World.block_lt_of_cell? w _ hw177_5)).trans hw177_5), ((HB.out.cell (World.block_lt_of_cell? w _ hw177_6)).trans hw177_6), ((HB.out.cell (World.block_lt_of_cell? w _ hw177_7)).trans hw177_7), ((HB.out.cell (World.block_lt_of_cell? w _ hw177_8)).trans hw177_8), ((HB.out.cell (World.block_lt_of_cell? w _ hw177_9)).trans hw177_9), ((HB.out.cell (World.block_lt_of_cell? w _ hw177_10)).trans hw177_10), ((HB.out.cell (World.block_lt_of_cell? w _ hw177_11)).trans hw177_11)⟩ (fun hHeld => ?_)
                  clear hK K
                  refine norm_ (a' := ?_) ?_ ?_
                  rotate_left
                  · show Act.put _ (some 24) _ = _
                    simp only [Act.put, List.setIfInBounds_toArray, List.set_cons_zero, List.set_cons_succ, i64_w, i32_w]
                    rfl
                  refine pure_ (i := 10) (N := some 25) (v := ?_) (a' := ?_) #[true, true, true, true, true, true, true, true, true, true, true] rfl rfl (any_of HT_.out (by kernel_rfl)) (fun _ _ _ h => h) (Or.inl ⟨by rfl, ?_⟩) ?_ ?_
                  rotate_left
                  · intro w'
                    go_simp
                    with_reducible rfl
                  rotate_left
                  · simp only [Act.put, List.setIfInBounds_toArray, List.set_cons_zero, List.set_cons_succ, i64_w, i32_w]
                    rfl
                  refine done_ (done_of HT_.out (by kernel_rfl)) ?_
                  try go_wp2
                  go_loopg [4] kj1 (fun kq v4 w' => ∃ (x4_3 : Int), v4 = .int .i64 x4_3 ∧ Aside0 (spec_HitsValid.l1 kq l0 x3_1 x4_3 = some r) ∧ Aside0 (kq ≤ kj1) ∧ Aside0 (Below w.heap.size w w'))
                  case atStart => exact ⟨(0), (by first | rfl | (simp; done) | (simp [*]; done)), H', ⟨Nat.le_refl _⟩, ⟨by repeat (first | (with_reducible first | exact HB.out | apply below_alloc | apply pw_below_drewN | apply below_drew1) | exact HB.out)⟩⟩
                  case round =>
                    clear H'
                    try clear c1
                    try clear p1
                    try clear q1
                    try clear hx1
                    try clear p2
                    try clear c3
                    try clear c3b0
                    try clear c4
                    try clear c5
                    try clear c5b0
                    try clear c6
                    try clear c6b0
                    try clear c8
                    try clear hx176_0
                    try clear hx176_1
                    try clear hx176_10
                    try clear hx176_11
                    try clear hx176_2
                    try clear hx176_3
                    try clear hx176_4
                    try clear hx176_5
                    try clear hx176_6
                    try clear hx176_7
                    try clear hx176_8
                    try clear hx176_9
                    try clear hx177_0
                    try clear hx177_1
                    try clear hx177_10
                    try clear hx177_11
                    try clear hx177_2
                    try clear hx177_3
                    try clear hx177_4
                    try clear hx177_5
                    try clear hx177_6
                    try clear hx177_7
                    try clear hx177_8
                    try clear hx177_9
                    try clear p176
                    try clear p177
                    try clear p2
                    try clear q176
                    try clear q177
                    obtain ⟨x4_3, rfl, HA, HK3, HB⟩ := hrel
                    cases gk with
                    | zero => exact absurd HA.out (by simp [spec_HitsValid.l1])
                    | succ k3 =>
                      have H := HA.out
                      clear HA
                      simp only [spec_HitsValid.l1] at H
                      by_cases c11 : x4_3 < x3_1
                      · rw [if_pos c11] at H
                        have c11b0 : decide (x4_3 < x3_1) = true := decide_eq_true c11
                        clear c11
                        by_cases c12 : 0 ≤ x4_3
                        · rw [if_pos c12] at H
                          have c12b0 : decide (0 ≤ x4_3) = true := decide_eq_true c12
                          clear c12
                          by_cases c13 : x4_3 < (l0.length : Int)
                          · rw [if_pos c13] at H
                            have c13b0 : decide (x4_3 < (l0.length : Int)) = true := decide_eq_true c13
                            clear c13
                            by_cases c14 : 0 ≤ x3_1
                            · rw [if_pos c14] at H
                              have c14b0 : decide (0 ≤ x3_1) = true := decide_eq_true c14
                              clear c14
                              by_cases c15 : x3_1 < (l0.length : Int)
                              · rw [if_pos c15] at H
                                have c15b0 : decide (x3_1 < (l0.length : Int)) = true := decide_eq_true c15
                                clear c15
                                replace H := Option.bind_eq_some_iff.mp H
                                obtain ⟨t181, A160, H⟩ := H
                                replace H : (if t181 = true then (some false) else (spec_HitsValid.l1 k3 l0 x3_1 (wrap64 (x4_3 + 1)))) = some r := H
                                have A16 := Aside0.mk A160
                                clear A160
                                by_cases c17 : t181 = true
                                · subst c17
                                  have H1 : (some false) = some r := by rw [if_pos rfl] at H; exact H
                                  clear H
                                  have H := H1
                                  clear H1
                                  obtain rfl := Option.some.inj H
                                  try go_wp2
                                  have n0_ := Aside0.mk (below_drew1 HB.out)
                                  clear HB
                                  have HB := n0_
                                  clear n0_
                                  have p179 : 0 ≤ (x4_3 : Int) := of_decide_eq_true (by first | (with_reducible assumption) | assumption)
                                  have q179 : x4_3 < (l0.length : Int) := of_decide_eq_true (by first | (with_reducible assumption) | assumption)
                                  obtain ⟨ad179, A179_3, c179_3, A179_4, c179_4, A179_9, c179_9, A179_10, c179_10, A179_11, c179_11, e179, hx179_0, hx179_1, hx179_2, hx179_3, hx179_4, hx179_5, hx179_6, hx179_7, hx179_8, hx179_9, hx179_10, hx179_11, hl179_3, hi179_3, hl179_4, hi179_4, hl179_9, hi179_9, hl179_10, hi179_10, hl179_11, hi179_11⟩ := at_T80 HR0.out x4_3 p179 q179
                                  have hw179_11 := hx179_11
                                  have hw179_10 := hx179_10
                                  have hw179_9 := hx179_9
                                  have hw179_8 := hx179_8
                                  have hw179_7 := hx179_7
                                  have hw179_6 := hx179_6
                                  have hw179_5 := hx179_5
                                  have hw179_4 := hx179_4
                                  have hw179_3 := hx179_3
                                  have hw179_2 := hx179_2
                                  have hw179_1 := hx179_1
                                  have hw179_0 := hx179_0
                                  obtain rfl : ad176 = ad179 := (by injection e179)
                                  replace hx179_0 := (HB.out.cell (World.block_lt_of_cell? w _ hx179_0)).trans hx179_0
                                  replace hx179_1 := (HB.out.cell (World.block_lt_of_cell? w _ hx179_1)).trans hx179_1
                                  replace hx179_2 := (HB.out.cell (World.block_lt_of_cell? w _ hx179_2)).trans hx179_2
                                  replace hx179_3 := (HB.out.cell (World.block_lt_of_cell? w _ hx179_3)).trans hx179_3
                                  replace hx179_4 := (HB.out.cell (World.block_lt_of_cell? w _ hx179_4)).trans hx179_4
                                  replace hx179_5 := (HB.out.cell (World.block_lt_of_cell? w _ hx179_5)).trans hx179_5
                                  replace hx179_6 := (HB.out.cell (World.block_lt_of_cell? w _ hx179_6)).trans hx179_6
                                  replace hx179_7 := (HB.out.cell (World.block_lt_of_cell? w _ hx179_7)).trans hx179_7
                                  replace hx179_8 := (HB.out.cell (World.block_lt_of_cell? w _ hx179_8)).trans hx179_8
                                  replace hx179_9 := (HB.out.cell (World.block_lt_of_cell? w _ hx179_9)).trans hx179_9
                                  replace hx179_10 := (HB.out.cell (World.block_lt_of_cell? w _ hx179_10)).trans hx179_10
                                  replace hx179_11 := (HB.out.cell (World.block_lt_of_cell? w _ hx179_11)).trans hx179_11
                                  have HR179_3 := Aside0.mk hi179_3
                                  have HC179_3 := Aside0.mk hl179_3
                                  clear hi179_3 hl179_3
                                  have HR179_4 := Aside0.mk hi179_4
                                  have HC179_4 := Aside0.mk hl179_4
                                  clear hi179_4 hl179_4
                                  have HR179_9 := Aside0.mk hi179_9
                                  have HC179_9 := Aside0.mk hl179_9
                                  clear hi179_9 hl179_9
                                  have HR179_10 := Aside0.mk hi179_10
                                  have HC179_10 := Aside0.mk hl179_10
                                  clear hi179_10 hl179_10
                                  have HR179_11 := Aside0.mk hi179_11
                                  have HC179_11 := Aside0.mk hl179_11
                                  clear hi179_11 hl179_11
                                  replace p179 := eq_true p179
                                  replace q179 := eq_true q179
                                  have p180 : 0 ≤ (x3_1 : Int) := of_decide_eq_true (by first | (with_reducible assumption) | assumption)
                                  have q180 : x3_1 < (l0.length : Int) := of_decide_eq_true (by first | (with_reducible assumption) | assumption)
                                  obtain ⟨ad180, A180_3, c180_3, A180_4, c180_4, A180_9, c180_9, A180_10, c180_10, A180_11, c180_11, e180, hx180_0, hx180_1, hx180_2, hx180_3, hx180_4, hx180_5, hx180_6, hx180_7, hx180_8, hx180_9, hx180_10, hx180_11, hl180_3, hi180_3, hl180_4, hi180_4, hl180_9, hi180_9, hl180_10, hi180_10, hl180_11, hi180_11⟩ := at_T80 HR0.out x3_1 p180 q180
                                  have hw180_11 := hx180_11
                                  have hw180_10 := hx180_10
                                  have hw180_9 := hx180_9
                                  have hw180_8 := hx180_8
                                  have hw180_7 := hx180_7
                                  have hw180_6 := hx180_6
                                  have hw180_5 := hx180_5
                                  have hw180_4 := hx180_4
                                  have hw180_3 := hx180_3
                                  have hw180_2 := hx180_2
                                  have hw180_1 := hx180_1
                                  have hw180_0 := hx180_0
                                  obtain rfl : ad176 = ad180 := (by injection e180)
                                  replace hx180_0 := (HB.out.cell (World.block_lt_of_cell? w _ hx180_0)).trans hx180_0
                                  replace hx180_1 := (HB.out.cell (World.block_lt_of_cell? w _ hx180_1)).trans hx180_1
                                  replace hx180_2 := (HB.out.cell (World.block_lt_of_cell? w _ hx180_2)).trans hx180_2
                                  replace hx180_3 := (HB.out.cell (World.block_lt_of_cell? w _ hx180_3)).trans hx180_3
                                  replace hx180_4 := (HB.out.cell (World.block_lt_of_cell? w _ hx180_4)).trans hx180_4
                                  replace hx180_5 := (HB.out.cell (World.block_lt_of_cell? w _ hx180_5)).trans hx180_5
                                  replace hx180_6 := (HB.out.cell (World.block_lt_of_cell? w _ hx180_6)).trans hx180_6
                                  replace hx180_7 := (HB.out.cell (World.block_lt_of_cell? w _ hx180_7)).trans hx180_7
                                  replace hx180_8 := (HB.out.cell (World.block_lt_of_cell? w _ hx180_8)).trans hx180_8
                                  replace hx180_9 := (HB.out.cell (World.block_lt_of_cell? w _ hx180_9)).trans hx180_9
                                  replace hx180_10 := (HB.out.cell (World.block_lt_of_cell? w _ hx180_10)).trans hx180_10
                                  replace hx180_11 := (HB.out.cell (World.block_lt_of_cell? w _ hx180_11)).trans hx180_11
                                  have HR180_3 := Aside0.mk hi180_3
                                  have HC180_3 := Aside0.mk hl180_3
                                  clear hi180_3 hl180_3
                                  have HR180_4 := Aside0.mk hi180_4
                                  have HC180_4 := Aside0.mk hl180_4
                                  clear hi180_4 hl180_4
                                  have HR180_9 := Aside0.mk hi180_9
                                  have HC180_9 := Aside0.mk hl180_9
                                  clear hi180_9 hl180_9
                                  have HR180_10 := Aside0.mk hi180_10
                                  have HC180_10 := Aside0.mk hl180_10
                                  clear hi180_10 hl180_10
                                  have HR180_11 := Aside0.mk hi180_11
                                  have HC180_11 := Aside0.mk hl180_11
                                  clear hi180_11 hl180_11
                                  replace p180 := eq_true p180
                                  replace q180 := eq_true q180
                                  refine start_ (n := 11) (S := fun w' => w'.cell? (ad176.add ((x4_3).toNat * 12)) = some (.int .i64 ((rd_T80 l0 x4_3).f0.f0)) ∧ w'.cell? ⟨(ad176.add ((x4_3).toNat * 12)).block, (ad176.add ((x4_3).toNat * 12)).off + 1, none⟩ = some (.string ((rd_T80 l0 x4_3).f0.f1)) ∧ w'.cell? ⟨(ad176.add ((x4_3).toNat * 12)).block, (ad176.add ((x4_3).toNat * 12)).off + 2, none⟩ = some (.int .i64 ((rd_T80 l0 x4_3).f0.f2)) ∧ w'.cell? ⟨(ad176.add ((x4_3).toNat * 12)).block, (ad176.add ((x4_3).toNat * 12)).off + 3, none⟩ = some (.slice A179_3 ((rd_T80 l0 x4_3).f0.f3).length c179_3) ∧ w'.cell? ⟨(ad176.add ((x4_3).toNat * 12)).block, (ad176.add ((x4_3).toNat * 12)).off + 4, none⟩ = some (.slice A179_4 ((rd_T80 l0 x4_3).f0.f4).length c179_4) ∧ w'.cell? ⟨(ad176.add ((x4_3).toNat * 12)).block, (ad176.add ((x4_3).toNat * 12)).off + 5, none⟩ = some (.int .i64 ((rd_T80 l0 x4_3).f1)) ∧ w'.cell? ⟨(ad176.add ((x4_3).toNat * 12)).block, (ad176.add ((x4_3).toNat * 12)).off + 6, none⟩ = some (.int .i64 ((rd_T80 l0 x4_3).f2.f0)) ∧ w'.cell? ⟨(ad176.add ((x4_3).toNat * 12)).block, (ad176.add ((x4_3).toNat * 12)).off + 7, none⟩ = some (.string ((rd_T80 l0 x4_3).f2.f1)) ∧ w'.cell? ⟨(ad176.add ((x4_3).toNat * 12)).block, (ad176.add ((x4_3).toNat * 12)).off + 8, none⟩ = some (.int .i64 ((rd_T80 l0 x4_3).f2.f2)) ∧ w'.cell? ⟨(ad176.add ((x4_3).toNat * 12)).block, (ad176.add ((x4_3).toNat * 12)).off + 9, none⟩ = some (.slice A179_9 ((rd_T80 l0 x4_3).f2.f3).length c179_9) ∧ w'.cell? ⟨(ad176.add ((x4_3).toNat * 12)).block, (ad176.add ((x4_3).toNat * 12)).off + 10, none⟩ = some (.slice A179_10 ((rd_T80 l0 x4_3).f2.f4).length c179_10) ∧ w'.cell? ⟨(ad176.add ((x4_3).toNat * 12)).block, (ad176.add ((x4_3).toNat * 12)).off + 11, none⟩ = some (.slice A179_11 ((rd_T80 l0 x4_3).f3).length c179_11) ∧ w'.cell? (ad176.add ((x3_1).toNat * 12)) = some (.int .i64 ((rd_T80 l0 x3_1).f0.f0)) ∧ w'.cell? ⟨(ad176.add ((x3_1).toNat * 12)).block, (ad176.add ((x3_1).toNat * 12)).off + 1, none⟩ = some (.string ((rd_T80 l0 x3_1).f0.f1)) ∧ w'.cell? ⟨(ad176.add ((x3_1).toNat * 12)).block, (ad176.add ((x3_1).toNat * 12)).off + 2, none⟩ = some (.int .i64 ((rd_T80 l0 x3_1).f0.f2)) ∧ w'.cell? ⟨(ad176.add ((x3_1).toNat * 12)).block, (ad176.add ((x3_1).toNat * 12)).off + 3, none⟩ = some (.slice A180_3 ((rd_T80 l0 x3_1).f0.f3).length c180_3) ∧ w'.cell? ⟨(ad176.add ((x3_1).toNat * 12)).block, (ad176.add ((x3_1).toNat * 12)).off + 4, none⟩ = some (.slice A180_4 ((rd_T80 l0 x3_1).f0.f4).length c180_4) ∧ w'.cell? ⟨(ad176.add ((x3_1).toNat * 12)).block, (ad176.add ((x3_1).toNat * 12)).off + 5, none⟩ = some (.int .i64 ((rd_T80 l0 x3_1).f1)) ∧ w'.cell? ⟨(ad176.add ((x3_1).toNat * 12)).block, (ad176.add ((x3_1).toNat * 12)).off + 6, none⟩ = some (.int .i64 ((rd_T80 l0 x3_1).f2.f0)) ∧ w'.cell? ⟨(ad176.add ((x3_1).toNat * 12)).block, (ad176.add ((x3_1).toNat * 12)).off + 7, none⟩ = some (.string ((rd_T80 l0 x3_1).f2.f1)) ∧ w'.cell? ⟨(ad176.add ((x3_1).toNat * 12)).block, (ad176.add ((x3_1).toNat * 12)).off + 8, none⟩ = some (.int .i64 ((rd_T80 l0 x3_1).f2.f2)) ∧ w'.cell? ⟨(ad176.add ((x3_1).toNat * 12)).block, (ad176.add ((x3_1).toNat * 12)).off + 9, none⟩ = some (.slice A180_9 ((rd_T80 l0 x3_1).f2.f3).length c180_9) ∧ w'.cell? ⟨(ad176.add ((x3_1).toNat * 12)).block, (ad176.add ((x3_1).toNat * 12)).off + 10, none⟩ = some (.slice A180_10 ((rd_T80 l0 x3_1).f2.f4).length c180_10) ∧ w'.cell? ⟨(ad176.add ((x3_1).toNat * 12)).block, (ad176.add ((x3_1).toNat * 12)).off + 11, none⟩ = some (.slice A180_11 ((rd_T80 l0 x3_1).f3).length c180_11)) (ds := []) #[false, false, false, false, false, false, false, false, false, false, false] (by kernel_rfl) rfl rfl ⟨((HB.out.cell (World.block_lt_of_cell? w _ hw179_0)).trans hw179_0), ((HB.out.cell (World.block_lt_of_cell? w _ hw179_1)).trans hw179_1), ((HB.out.cell (World.block_lt_of_cell? w _ hw179_2)).trans hw179_2), ((HB.out.cell (World.block_lt_of_cell? w _ hw179_3)).trans hw179_3), ((HB.out.cell (World.block_lt_of_cell? w _ hw179_4)).trans hw179_4), ((HB.out.cell (World.block_lt_of_cell? w _ hw179_5)).trans hw179_5), ((HB.out.cell (World.block_lt_of_cell? w _ hw179_6)).trans hw179_6), ((HB.out.cell (World.block_lt_of_cell? w _ hw179_7)).trans hw179_7), ((HB.out.cell (World.block_lt_of_cell? w _ hw179_8)).trans hw179_8), ((HB.out.cell (World.block_lt_of_cell? w _ hw179_9)).trans hw179_9), ((HB.out.cell (World.block_lt_of_cell? w _ hw179_10)).trans hw179_10), ((HB.out.cell (World.block_lt_of_cell? w _ hw179_11)).trans hw179_11), ((HB.out.cell (World.block_lt_of_cell? w _ hw180_0)).trans hw180_0), ((HB.out.cell (World.block_lt_of_cell? w _ hw180_1)).trans hw180_1), ((HB.out.cell (World.block_lt_of_cell? w _ hw180_2)).trans hw180_2), ((HB.out.cell (World.block_lt_of_cell? w _ hw180_3)).trans hw180_3), ((HB.out.cell (World.block_lt_of_cell? w _ hw180_4)).trans hw180_4), ((HB.out.cell (World.block_lt_of_cell? w _ hw180_5)).trans hw180_5), ((HB.out.cell (World.block_lt_of_cell? w _ hw180_6)).trans hw180_6), ((HB.out.cell (World.block_lt_of_cell? w _ hw180_7)).trans hw180_7), ((HB.out.cell (World.block_lt_of_cell? w _ hw180_8)).trans hw180_8), ((HB.out.cell (World.block_lt_of_cell? w _ hw180_9)).trans hw180_9), ((HB.out.cell (World.block_lt_of_cell? w _ hw180_10)).trans hw180_10), ((HB.out.cell (World.block_lt_of_cell? w _ hw180_11)).trans hw180_11)⟩ (fun hHeld => ?_); refine with_tabW spec_HitsValid.tab9 spec_HitsValid.bits9 (fun HT_ HW_ => ?_)
                                  generalize wr.drew = w18 at HB HR179_10 HR179_11 HR179_3 HR179_4 HR179_9 HR180_10 HR180_11 HR180_3 HR180_4 HR180_9 hx179_0 hx179_1 hx179_10 hx179_11 hx179_2 hx179_3 hx179_4 hx179_5 hx179_6 hx179_7 hx179_8 hx179_9 hx180_0 hx180_1 hx180_10 hx180_11 hx180_2 hx180_3 hx180_4 hx180_5 hx180_6 hx180_7 hx180_8 hx180_9 hHeld ⊢
                                  refine pure_ (i := 0) (N := some 31) (v := ?_) (a' := ?_) #[true, false, false, false, false, false, false, false, false, false, false] rfl rfl (any_of HT_.out (by kernel_rfl)) (fun _ _ _ h => h) (Or.inl ⟨by rfl, ?_⟩) ?_ ?_
                                  rotate_left
                                  · intro w'
                                    go_simp
                                    with_reducible rfl
                                  rotate_left
                                  · simp only [Act.put, List.setIfInBounds_toArray, List.set_cons_zero, List.set_cons_succ, i64_w, i32_w]
                                    rfl
                                  refine pure_ (i := 1) (N := some 32) (v := ?_) (a' := ?_) #[true, true, false, false, false, false, false, false, false, false, false] rfl rfl (any_of HT_.out (by kernel_rfl)) (fun _ _ _ h => h) (Or.inl ⟨by rfl, ?_⟩) ?_ ?_
                                  rotate_left
                                  · intro w'
                                    go_simp
                                    with_reducible rfl
                                  rotate_left
                                  · simp only [Act.put, List.setIfInBounds_toArray, List.set_cons_zero, List.set_cons_succ, i64_w, i32_w]
                                    rfl
                                  refine pure_ (i := 2) (N := some 33) (v := ?_) (a' := ?_) #[true, true, true, false, false, false, false, false, false, false, false] rfl rfl (any_of HT_.out (by kernel_rfl)) (fun _ _ _ h => h) (Or.inl ⟨by rfl, ?_⟩) ?_ ?_
                                  rotate_left
                                  · intro w'
                                    go_simp
                                    with_reducible rfl
                                  rotate_left
                                  · simp only [Act.put, List.setIfInBounds_toArray, List.set_cons_zero, List.set_cons_succ, i64_w, i32_w]
                                    rfl
                                  refine pure_ (i := 3) (N := some 34) (v := ?_) (a' := ?_) #[true, true, true, true, false, false, false, false, false, false, false] rfl rfl (any_of HT_.out (by kernel_rfl)) (fun _ _ _ h => h) (Or.inl ⟨by rfl, ?_⟩) ?_ ?_
                                  rotate_left
                                  · intro w'
                                    go_simp
                                    with_reducible rfl
                                  rotate_left
                                  · simp only [Act.put, List.setIfInBounds_toArray, List.set_cons_zero, List.set_cons_succ, i64_w, i32_w]
                                    rfl
                                  refine pure_ (i := 5) (N := some 36) (v := ?_) (a' := ?_) #[true, true, true, true, false, true, false, false, false, false, false] rfl rfl (any_of HT_.out (by kernel_rfl)) (fun _ _ _ h => h) (Or.inl ⟨by rfl, ?_⟩) ?_ ?_
                                  rotate_left
                                  · intro w'
                                    go_simp
                                    with_reducible rfl
                                  rotate_left
                                  · simp only [Act.put, List.setIfInBounds_toArray, List.set_cons_zero, List.set_cons_succ, i64_w, i32_w]
                                    rfl
                                  refine pure_ (i := 6) (N := some 37) (v := ?_) (a' := ?_) #[true, true, true, true, false, true, true, false, false, false, false] rfl rfl (any_of HT_.out (by kernel_rfl)) (fun _ _ _ h => h) (Or.inl ⟨by rfl, ?_⟩) ?_ ?_
                                  rotate_left
                                  · intro w'
                                    go_simp
                                    with_reducible rfl
                                  rotate_left
                                  · simp only [Act.put, List.setIfInBounds_toArray, List.set_cons_zero, List.set_cons_succ, i64_w, i32_w]
                                    rfl
                                  refine pure_ (i := 7) (N := some 38) (v := ?_) (a' := ?_) #[true, true, true, true, false, true, true, true, false, false, false] rfl rfl (any_of HT_.out (by kernel_rfl)) (fun _ _ _ h => h) (Or.inl ⟨by rfl, ?_⟩) ?_ ?_
                                  rotate_left
                                  · intro w'
                                    go_simp
                                    with_reducible rfl
                                  rotate_left
                                  · simp only [Act.put, List.setIfInBounds_toArray, List.set_cons_zero, List.set_cons_succ, i64_w, i32_w]
                                    rfl
                                  refine pure_ (i := 8) (N := some 39) (v := ?_) (a' := ?_) #[true, true, true, true, false, true, true, true, true, false, false] rfl rfl (any_of HT_.out (by kernel_rfl)) (fun _ _ _ h => h) (Or.inl ⟨by rfl, ?_⟩) ?_ ?_
                                  rotate_left
                                  · intro w'
                                    go_simp
                                    with_reducible rfl
                                  rotate_left
                                  · simp only [Act.put, List.setIfInBounds_toArray, List.set_cons_zero, List.set_cons_succ, i64_w, i32_w]
                                    rfl
                                  refine take_ (i := 4) (N := some 35) (v := ?_) (a' := ?_) #[true, true, true, true, true, true, true, true, true, false, false] rfl rfl (take_ofW HT_.out HW_.out (by kernel_rfl)) (fun _ _ _ h => h) (Or.inl ⟨by rfl, ?_⟩) hHeld ?_ ?_
                                  rotate_left
                                  · rintro w' ⟨s0, s1, s2, s3, s4, s5, s6, s7, s8, s9, s10, s11, s12, s13, s14, s15, s16, s17, s18, s19, s20, s21, s22, s23⟩
                                    go_simp
                                    with_reducible rfl
                                  rotate_left
                                  · simp only [Act.put, List.setIfInBounds_toArray, List.set_cons_zero, List.set_cons_succ, i64_w, i32_w]
                                    rfl
                                  refine take_ (i := 9) (N := some 40) (v := ?_) (a' := ?_) #[true, true, true, true, true, true, true, true, true, true, false] rfl rfl (take_ofW HT_.out HW_.out (by kernel_rfl)) (fun _ _ _ h => h) (Or.inl ⟨by rfl, ?_⟩) hHeld ?_ ?_
                                  rotate_left
                                  · rintro w' ⟨s0, s1, s2, s3, s4, s5, s6, s7, s8, s9, s10, s11, s12, s13, s14, s15, s16, s17, s18, s19, s20, s21, s22, s23⟩
                                    go_simp
                                    with_reducible rfl
                                  rotate_left
                                  · simp only [Act.put, List.setIfInBounds_toArray, List.set_cons_zero, List.set_cons_succ, i64_w, i32_w]
                                    rfl
                                  refine one_ (i := 10) (N := some 41) #[true, true, true, true, true, true, true, true, true, true, true] rfl rfl (one_of HT_.out (by kernel_rfl)) (by decide) (fun K hK => ?_)
                                  refine goes_ Try.func63 (by kernel_rfl) rfl #[.agg #[.int .i64 ((rd_T80 l0 x4_3).f0.f0), .string ((rd_T80 l0 x4_3).f0.f1), .int .i64 ((rd_T80 l0 x4_3).f0.f2), .slice A179_3 ((rd_T80 l0 x4_3).f0.f3).length c179_3, .slice A179_4 ((rd_T80 l0 x4_3).f0.f4).length c179_4], .agg #[.int .i64 ((rd_T80 l0 x3_1).f0.f0), .string ((rd_T80 l0 x3_1).f0.f1), .int .i64 ((rd_T80 l0 x3_1).f0.f2), .slice A180_3 ((rd_T80 l0 x3_1).f0.f3).length c180_3, .slice A180_4 ((rd_T80 l0 x3_1).f0.f4).length c180_4]] (by rfl) rfl rfl (by (try simp only [List.map_toArray, List.map_cons, List.map_nil]); first | done | rfl | (simp only [List.length_drop, List.length_take]; rfl)) ?_
                                  with_reducible refine (spec_FormSame.calls ((rd_T80 l0 x4_3).f0.f0) ((rd_T80 l0 x4_3).f0.f1) ((rd_T80 l0 x4_3).f0.f2) _ _ ((rd_T80 l0 x4_3).f0.f3) _ _ ((rd_T80 l0 x4_3).f0.f4) ((rd_T80 l0 x3_1).f0.f0) ((rd_T80 l0 x3_1).f0.f1) ((rd_T80 l0 x3_1).f0.f2) _ _ ((rd_T80 l0 x3_1).f0.f3) _ _ ((rd_T80 l0 x3_1).f0.f4) true _ ?side1 ?side2 ?side3 ?side4 ?side5 ?side6 ?side7 ?side8 A16.out).mono ?_
                                  (case side1 => repeat (first | exact (Kd.C_below HR179_3.out HB.out) | (with_reducible refine Kd.C_alloc ?_ _) | (with_reducible refine Kd.C_drewN ?_ _) | (with_reducible refine Kd.C_drew ?_)))
                                  (case side2 => exact HC179_3.out)
                                  (case side3 => repeat (first | exact (Kd.C_below HR179_4.out HB.out) | (with_reducible refine Kd.C_alloc ?_ _) | (with_reducible refine Kd.C_drewN ?_ _) | (with_reducible refine Kd.C_drew ?_)))
                                  (case side4 => exact HC179_4.out)
                                  (case side5 => repeat (first | exact (Kd.C_below HR180_3.out HB.out) | (with_reducible refine Kd.C_alloc ?_ _) | (with_reducible refine Kd.C_drewN ?_ _) | (with_reducible refine Kd.C_drew ?_)))
                                  (case side6 => exact HC180_3.out)
                                  (case side7 => repeat (first | exact (Kd.C_below HR180_4.out HB.out) | (with_reducible refine Kd.C_alloc ?_ _) | (with_reducible refine Kd.C_drewN ?_ _) | (with_reducible refine Kd.C_drew ?_)))
                                  (case side8 => exact HC180_4.out)
                                  rintro e w19 ⟨rfl, hb⟩
                                  refine ⟨_, rfl, ?_⟩
                                  have n0_ := Aside0.mk (below_step (by repeat (first | (with_reducible first | exact HB.out | apply below_alloc | apply pw_below_drewN | apply below_drew1) | exact HB.out)) hb)
                                  clear HB
                                  have HB := n0_
                                  clear n0_
                                  (try clear hb)
                                  (try clear hb2)
                                  (try clear hk)
                                  (try clear hi)
                                  refine hK.out _ _ ⟨((HB.out.cell (World.block_lt_of_cell? w _ hw179_0)).trans hw179_0), ((HB.out.cell (World.block_lt_of_cell? w _ hw179_1)).trans hw179_1), ((HB.out.cell (World.block_lt_of_cell? w _ hw179_2)).trans hw179_2), ((HB.out.cell (World.block_lt_of_cell? w _ hw179_3)).trans hw179_3), ((HB.out.cell (World.block_lt_of_cell? w _ hw179_4)).trans hw179_4), ((HB.out.cell (World.block_lt_of_cell? w _ hw179_5)).trans hw179_5), ((HB.out.cell (World.block_lt_of_cell? w _ hw179_6)).trans hw179_6), ((HB.out.cell (World.block_lt_of_cell? w _ hw179_7)).trans hw179_7), ((HB.out.cell (World.block_lt_of_cell? w _ hw179_8)).trans hw179_8), ((HB.out.cell (World.block_lt_of_cell? w _ hw179_9)).trans hw179_9), ((HB.out.cell (World.block_lt_of_cell? w _ hw179_10)).trans hw179_10), ((HB.out.cell (World.block_lt_of_cell? w _ hw179_11)).trans hw179_11), ((HB.out.cell (World.block_lt_of_cell? w _ hw180_0)).trans hw180_0), ((HB.out.cell (World.block_lt_of_cell? w _ hw180_1)).trans hw180_1), ((HB.out.cell (World.block_lt_of_cell? w _ hw180_2)).trans hw180_2), ((HB.out.cell (World.block_lt_of_cell? w _ hw180_3)).trans hw180_3), ((HB.out.cell (World.block_lt_of_cell? w _ hw180_4)).trans hw180_4), ((HB.out.cell (World.block_lt_of_cell? w _ hw180_5)).trans hw180_5), ((HB.out.cell (World.block_lt_of_cell? w _ hw180_6)).trans hw180_6), ((HB.out.cell (World.block_lt_of_cell? w _ hw180_7)).trans hw180_7), ((HB.out.cell (World.block_lt_of_cell? w _ hw180_8)).trans hw180_8), ((HB.out.cell (World.block_lt_of_cell? w _ hw180_9)).trans hw180_9), ((HB.out.cell (World.block_lt_of_cell? w _ hw180_10)).trans hw180_10), ((HB.out.cell (World.block_lt_of_cell? w _ hw180_11)).trans hw180_11)⟩ (fun hHeld => ?_)
                                  clear hK K
                                  refine norm_ (a' := ?_) ?_ ?_
                                  rotate_left
                                  · show Act.put _ (some 41) _ = _
                                    simp only [Act.put, List.setIfInBounds_toArray, List.set_cons_zero, List.set_cons_succ, i64_w, i32_w]
                                    rfl
                                  refine done_ (done_of HT_.out (by kernel_rfl)) ?_
                                  try go_wp2
                                  go_ret
                                  exact ⟨by first | rfl | (simp [errW_none, errW_some] <;> rfl) | (simp [*, errW_none, errW_some] <;> rfl), by repeat (first | (with_reducible first | exact HB.out | apply below_alloc | apply pw_below_drewN | apply below_drew1) | exact HB.out)⟩
                                · replace c17 := Bool.eq_false_iff.mpr c17
                                  subst c17
                                  have H1 : (spec_HitsValid.l1 k3 l0 x3_1 (wrap64 (x4_3 + 1))) = some r := by rw [if_neg (show ¬ (false = true) by decide)] at H; exact H
                                  clear H
                                  have H := H1
                                  clear H1
                                  have H' := Aside0.mk H
                                  clear H
                                  try go_wp2
                                  have n0_ := Aside0.mk (below_drew1 HB.out)
                                  clear HB
                                  have HB := n0_
                                  clear n0_
                                  have p179 : 0 ≤ (x4_3 : Int) := of_decide_eq_true (by first | (with_reducible assumption) | assumption)
                                  have q179 : x4_3 < (l0.length : Int) := of_decide_eq_true (by first | (with_reducible assumption) | assumption)
                                  obtain ⟨ad179, A179_3, c179_3, A179_4, c179_4, A179_9, c179_9, A179_10, c179_10, A179_11, c179_11, e179, hx179_0, hx179_1, hx179_2, hx179_3, hx179_4, hx179_5, hx179_6, hx179_7, hx179_8, hx179_9, hx179_10, hx179_11, hl179_3, hi179_3, hl179_4, hi179_4, hl179_9, hi179_9, hl179_10, hi179_10, hl179_11, hi179_11⟩ := at_T80 HR0.out x4_3 p179 q179
                                  have hw179_11 := hx179_11
                                  have hw179_10 := hx179_10
                                  have hw179_9 := hx179_9
                                  have hw179_8 := hx179_8
                                  have hw179_7 := hx179_7
                                  have hw179_6 := hx179_6
                                  have hw179_5 := hx179_5
                                  have hw179_4 := hx179_4
                                  have hw179_3 := hx179_3
                                  have hw179_2 := hx179_2
                                  have hw179_1 := hx179_1
                                  have hw179_0 := hx179_0
                                  obtain rfl : ad176 = ad179 := (by injection e179)
                                  replace hx179_0 := (HB.out.cell (World.block_lt_of_cell? w _ hx179_0)).trans hx179_0
                                  replace hx179_1 := (HB.out.cell (World.block_lt_of_cell? w _ hx179_1)).trans hx179_1
                                  replace hx179_2 := (HB.out.cell (World.block_lt_of_cell? w _ hx179_2)).trans hx179_2
                                  replace hx179_3 := (HB.out.cell (World.block_lt_of_cell? w _ hx179_3)).trans hx179_3
                                  replace hx179_4 := (HB.out.cell (World.block_lt_of_cell? w _ hx179_4)).trans hx179_4
                                  replace hx179_5 := (HB.out.cell (World.block_lt_of_cell? w _ hx179_5)).trans hx179_5
                                  replace hx179_6 := (HB.out.cell (World.block_lt_of_cell? w _ hx179_6)).trans hx179_6
                                  replace hx179_7 := (HB.out.cell (World.block_lt_of_cell? w _ hx179_7)).trans hx179_7
                                  replace hx179_8 := (HB.out.cell (World.block_lt_of_cell? w _ hx179_8)).trans hx179_8
                                  replace hx179_9 := (HB.out.cell (World.block_lt_of_cell? w _ hx179_9)).trans hx179_9
                                  replace hx179_10 := (HB.out.cell (World.block_lt_of_cell? w _ hx179_10)).trans hx179_10
                                  replace hx179_11 := (HB.out.cell (World.block_lt_of_cell? w _ hx179_11)).trans hx179_11
                                  have HR179_3 := Aside0.mk hi179_3
                                  have HC179_3 := Aside0.mk hl179_3
                                  clear hi179_3 hl179_3
                                  have HR179_4 := Aside0.mk hi179_4
                                  have HC179_4 := Aside0.mk hl179_4
                                  clear hi179_4 hl179_4
                                  have HR179_9 := Aside0.mk hi179_9
                                  have HC179_9 := Aside0.mk hl179_9
                                  clear hi179_9 hl179_9
                                  have HR179_10 := Aside0.mk hi179_10
                                  have HC179_10 := Aside0.mk hl179_10
                                  clear hi179_10 hl179_10
                                  have HR179_11 := Aside0.mk hi179_11
                                  have HC179_11 := Aside0.mk hl179_11
                                  clear hi179_11 hl179_11
                                  replace p179 := eq_true p179
                                  replace q179 := eq_true q179
                                  have p180 : 0 ≤ (x3_1 : Int) := of_decide_eq_true (by first | (with_reducible assumption) | assumption)
                                  have q180 : x3_1 < (l0.length : Int) := of_decide_eq_true (by first | (with_reducible assumption) | assumption)
                                  obtain ⟨ad180, A180_3, c180_3, A180_4, c180_4, A180_9, c180_9, A180_10, c180_10, A180_11, c180_11, e180, hx180_0, hx180_1, hx180_2, hx180_3, hx180_4, hx180_5, hx180_6, hx180_7, hx180_8, hx180_9, hx180_10, hx180_11, hl180_3, hi180_3, hl180_4, hi180_4, hl180_9, hi180_9, hl180_10, hi180_10, hl180_11, hi180_11⟩ := at_T80 HR0.out x3_1 p180 q180
                                  have hw180_11 := hx180_11
                                  have hw180_10 := hx180_10
                                  have hw180_9 := hx180_9
                                  have hw180_8 := hx180_8
                                  have hw180_7 := hx180_7
                                  have hw180_6 := hx180_6
                                  have hw180_5 := hx180_5
                                  have hw180_4 := hx180_4
                                  have hw180_3 := hx180_3
                                  have hw180_2 := hx180_2
                                  have hw180_1 := hx180_1
                                  have hw180_0 := hx180_0
                                  obtain rfl : ad176 = ad180 := (by injection e180)
                                  replace hx180_0 := (HB.out.cell (World.block_lt_of_cell? w _ hx180_0)).trans hx180_0
                                  replace hx180_1 := (HB.out.cell (World.block_lt_of_cell? w _ hx180_1)).trans hx180_1
                                  replace hx180_2 := (HB.out.cell (World.block_lt_of_cell? w _ hx180_2)).trans hx180_2
                                  replace hx180_3 := (HB.out.cell (World.block_lt_of_cell? w _ hx180_3)).trans hx180_3
                                  replace hx180_4 := (HB.out.cell (World.block_lt_of_cell? w _ hx180_4)).trans hx180_4
                                  replace hx180_5 := (HB.out.cell (World.block_lt_of_cell? w _ hx180_5)).trans hx180_5
                                  replace hx180_6 := (HB.out.cell (World.block_lt_of_cell? w _ hx180_6)).trans hx180_6
                                  replace hx180_7 := (HB.out.cell (World.block_lt_of_cell? w _ hx180_7)).trans hx180_7
                                  replace hx180_8 := (HB.out.cell (World.block_lt_of_cell? w _ hx180_8)).trans hx180_8
                                  replace hx180_9 := (HB.out.cell (World.block_lt_of_cell? w _ hx180_9)).trans hx180_9
                                  replace hx180_10 := (HB.out.cell (World.block_lt_of_cell? w _ hx180_10)).trans hx180_10
                                  replace hx180_11 := (HB.out.cell (World.block_lt_of_cell? w _ hx180_11)).trans hx180_11
                                  have HR180_3 := Aside0.mk hi180_3
                                  have HC180_3 := Aside0.mk hl180_3
                                  clear hi180_3 hl180_3
                                  have HR180_4 := Aside0.mk hi180_4
                                  have HC180_4 := Aside0.mk hl180_4
                                  clear hi180_4 hl180_4
                                  have HR180_9 := Aside0.mk hi180_9
                                  have HC180_9 := Aside0.mk hl180_9
                                  clear hi180_9 hl180_9
                                  have HR180_10 := Aside0.mk hi180_10
                                  have HC180_10 := Aside0.mk hl180_10
                                  clear hi180_10 hl180_10
                                  have HR180_11 := Aside0.mk hi180_11
                                  have HC180_11 := Aside0.mk hl180_11
                                  clear hi180_11 hl180_11
                                  replace p180 := eq_true p180
                                  replace q180 := eq_true q180
                                  refine start_ (n := 11) (S := fun w' => w'.cell? (ad176.add ((x4_3).toNat * 12)) = some (.int .i64 ((rd_T80 l0 x4_3).f0.f0)) ∧ w'.cell? ⟨(ad176.add ((x4_3).toNat * 12)).block, (ad176.add ((x4_3).toNat * 12)).off + 1, none⟩ = some (.string ((rd_T80 l0 x4_3).f0.f1)) ∧ w'.cell? ⟨(ad176.add ((x4_3).toNat * 12)).block, (ad176.add ((x4_3).toNat * 12)).off + 2, none⟩ = some (.int .i64 ((rd_T80 l0 x4_3).f0.f2)) ∧ w'.cell? ⟨(ad176.add ((x4_3).toNat * 12)).block, (ad176.add ((x4_3).toNat * 12)).off + 3, none⟩ = some (.slice A179_3 ((rd_T80 l0 x4_3).f0.f3).length c179_3) ∧ w'.cell? ⟨(ad176.add ((x4_3).toNat * 12)).block, (ad176.add ((x4_3).toNat * 12)).off + 4, none⟩ = some (.slice A179_4 ((rd_T80 l0 x4_3).f0.f4).length c179_4) ∧ w'.cell? ⟨(ad176.add ((x4_3).toNat * 12)).block, (ad176.add ((x4_3).toNat * 12)).off + 5, none⟩ = some (.int .i64 ((rd_T80 l0 x4_3).f1)) ∧ w'.cell? ⟨(ad176.add ((x4_3).toNat * 12)).block, (ad176.add ((x4_3).toNat * 12)).off + 6, none⟩ = some (.int .i64 ((rd_T80 l0 x4_3).f2.f0)) ∧ w'.cell? ⟨(ad176.add ((x4_3).toNat * 12)).block, (ad176.add ((x4_3).toNat * 12)).off + 7, none⟩ = some (.string ((rd_T80 l0 x4_3).f2.f1)) ∧ w'.cell? ⟨(ad176.add ((x4_3).toNat * 12)).block, (ad176.add ((x4_3).toNat * 12)).off + 8, none⟩ = some (.int .i64 ((rd_T80 l0 x4_3).f2.f2)) ∧ w'.cell? ⟨(ad176.add ((x4_3).toNat * 12)).block, (ad176.add ((x4_3).toNat * 12)).off + 9, none⟩ = some (.slice A179_9 ((rd_T80 l0 x4_3).f2.f3).length c179_9) ∧ w'.cell? ⟨(ad176.add ((x4_3).toNat * 12)).block, (ad176.add ((x4_3).toNat * 12)).off + 10, none⟩ = some (.slice A179_10 ((rd_T80 l0 x4_3).f2.f4).length c179_10) ∧ w'.cell? ⟨(ad176.add ((x4_3).toNat * 12)).block, (ad176.add ((x4_3).toNat * 12)).off + 11, none⟩ = some (.slice A179_11 ((rd_T80 l0 x4_3).f3).length c179_11) ∧ w'.cell? (ad176.add ((x3_1).toNat * 12)) = some (.int .i64 ((rd_T80 l0 x3_1).f0.f0)) ∧ w'.cell? ⟨(ad176.add ((x3_1).toNat * 12)).block, (ad176.add ((x3_1).toNat * 12)).off + 1, none⟩ = some (.string ((rd_T80 l0 x3_1).f0.f1)) ∧ w'.cell? ⟨(ad176.add ((x3_1).toNat * 12)).block, (ad176.add ((x3_1).toNat * 12)).off + 2, none⟩ = some (.int .i64 ((rd_T80 l0 x3_1).f0.f2)) ∧ w'.cell? ⟨(ad176.add ((x3_1).toNat * 12)).block, (ad176.add ((x3_1).toNat * 12)).off + 3, none⟩ = some (.slice A180_3 ((rd_T80 l0 x3_1).f0.f3).length c180_3) ∧ w'.cell? ⟨(ad176.add ((x3_1).toNat * 12)).block, (ad176.add ((x3_1).toNat * 12)).off + 4, none⟩ = some (.slice A180_4 ((rd_T80 l0 x3_1).f0.f4).length c180_4) ∧ w'.cell? ⟨(ad176.add ((x3_1).toNat * 12)).block, (ad176.add ((x3_1).toNat * 12)).off + 5, none⟩ = some (.int .i64 ((rd_T80 l0 x3_1).f1)) ∧ w'.cell? ⟨(ad176.add ((x3_1).toNat * 12)).block, (ad176.add ((x3_1).toNat * 12)).off + 6, none⟩ = some (.int .i64 ((rd_T80 l0 x3_1).f2.f0)) ∧ w'.cell? ⟨(ad176.add ((x3_1).toNat * 12)).block, (ad176.add ((x3_1).toNat * 12)).off + 7, none⟩ = some (.string ((rd_T80 l0 x3_1).f2.f1)) ∧ w'.cell? ⟨(ad176.add ((x3_1).toNat * 12)).block, (ad176.add ((x3_1).toNat * 12)).off + 8, none⟩ = some (.int .i64 ((rd_T80 l0 x3_1).f2.f2)) ∧ w'.cell? ⟨(ad176.add ((x3_1).toNat * 12)).block, (ad176.add ((x3_1).toNat * 12)).off + 9, none⟩ = some (.slice A180_9 ((rd_T80 l0 x3_1).f2.f3).length c180_9) ∧ w'.cell? ⟨(ad176.add ((x3_1).toNat * 12)).block, (ad176.add ((x3_1).toNat * 12)).off + 10, none⟩ = some (.slice A180_10 ((rd_T80 l0 x3_1).f2.f4).length c180_10) ∧ w'.cell? ⟨(ad176.add ((x3_1).toNat * 12)).block, (ad176.add ((x3_1).toNat * 12)).off + 11, none⟩ = some (.slice A180_11 ((rd_T80 l0 x3_1).f3).length c180_11)) (ds := []) #[false, false, false, false, false, false, false, false, false, false, false] (by kernel_rfl) rfl rfl ⟨((HB.out.cell (World.block_lt_of_cell? w _ hw179_0)).trans hw179_0), ((HB.out.cell (World.block_lt_of_cell? w _ hw179_1)).trans hw179_1), ((HB.out.cell (World.block_lt_of_cell? w _ hw179_2)).trans hw179_2), ((HB.out.cell (World.block_lt_of_cell? w _ hw179_3)).trans hw179_3), ((HB.out.cell (World.block_lt_of_cell? w _ hw179_4)).trans hw179_4), ((HB.out.cell (World.block_lt_of_cell? w _ hw179_5)).trans hw179_5), ((HB.out.cell (World.block_lt_of_cell? w _ hw179_6)).trans hw179_6), ((HB.out.cell (World.block_lt_of_cell? w _ hw179_7)).trans hw179_7), ((HB.out.cell (World.block_lt_of_cell? w _ hw179_8)).trans hw179_8), ((HB.out.cell (World.block_lt_of_cell? w _ hw179_9)).trans hw179_9), ((HB.out.cell (World.block_lt_of_cell? w _ hw179_10)).trans hw179_10), ((HB.out.cell (World.block_lt_of_cell? w _ hw179_11)).trans hw179_11), ((HB.out.cell (World.block_lt_of_cell? w _ hw180_0)).trans hw180_0), ((HB.out.cell (World.block_lt_of_cell? w _ hw180_1)).trans hw180_1), ((HB.out.cell (World.block_lt_of_cell? w _ hw180_2)).trans hw180_2), ((HB.out.cell (World.block_lt_of_cell? w _ hw180_3)).trans hw180_3), ((HB.out.cell (World.block_lt_of_cell? w _ hw180_4)).trans hw180_4), ((HB.out.cell (World.block_lt_of_cell? w _ hw180_5)).trans hw180_5), ((HB.out.cell (World.block_lt_of_cell? w _ hw180_6)).trans hw180_6), ((HB.out.cell (World.block_lt_of_cell? w _ hw180_7)).trans hw180_7), ((HB.out.cell (World.block_lt_of_cell? w _ hw180_8)).trans hw180_8), ((HB.out.cell (World.block_lt_of_cell? w _ hw180_9)).trans hw180_9), ((HB.out.cell (World.block_lt_of_cell? w _ hw180_10)).trans hw180_10), ((HB.out.cell (World.block_lt_of_cell? w _ hw180_11)).trans hw180_11)⟩ (fun hHeld => ?_); refine with_tabW spec_HitsValid.tab9 spec_HitsValid.bits9 (fun HT_ HW_ => ?_)
                                  generalize wr.drew = w20 at HB HR179_10 HR179_11 HR179_3 HR179_4 HR179_9 HR180_10 HR180_11 HR180_3 HR180_4 HR180_9 hx179_0 hx179_1 hx179_10 hx179_11 hx179_2 hx179_3 hx179_4 hx179_5 hx179_6 hx179_7 hx179_8 hx179_9 hx180_0 hx180_1 hx180_10 hx180_11 hx180_2 hx180_3 hx180_4 hx180_5 hx180_6 hx180_7 hx180_8 hx180_9 hHeld ⊢
                                  refine pure_ (i := 0) (N := some 31) (v := ?_) (a' := ?_) #[true, false, false, false, false, false, false, false, false, false, false] rfl rfl (any_of HT_.out (by kernel_rfl)) (fun _ _ _ h => h) (Or.inl ⟨by rfl, ?_⟩) ?_ ?_
                                  rotate_left
                                  · intro w'
                                    go_simp
                                    with_reducible rfl
                                  rotate_left
                                  · simp only [Act.put, List.setIfInBounds_toArray, List.set_cons_zero, List.set_cons_succ, i64_w, i32_w]
                                    rfl
                                  refine pure_ (i := 1) (N := some 32) (v := ?_) (a' := ?_) #[true, true, false, false, false, false, false, false, false, false, false] rfl rfl (any_of HT_.out (by kernel_rfl)) (fun _ _ _ h => h) (Or.inl ⟨by rfl, ?_⟩) ?_ ?_
                                  rotate_left
                                  · intro w'
                                    go_simp
                                    with_reducible rfl
                                  rotate_left
                                  · simp only [Act.put, List.setIfInBounds_toArray, List.set_cons_zero, List.set_cons_succ, i64_w, i32_w]
                                    rfl
                                  refine pure_ (i := 2) (N := some 33) (v := ?_) (a' := ?_) #[true, true, true, false, false, false, false, false, false, false, false] rfl rfl (any_of HT_.out (by kernel_rfl)) (fun _ _ _ h => h) (Or.inl ⟨by rfl, ?_⟩) ?_ ?_
                                  rotate_left
                                  · intro w'
                                    go_simp
                                    with_reducible rfl
                                  rotate_left
                                  · simp only [Act.put, List.setIfInBounds_toArray, List.set_cons_zero, List.set_cons_succ, i64_w, i32_w]
                                    rfl
                                  refine pure_ (i := 3) (N := some 34) (v := ?_) (a' := ?_) #[true, true, true, true, false, false, false, false, false, false, false] rfl rfl (any_of HT_.out (by kernel_rfl)) (fun _ _ _ h => h) (Or.inl ⟨by rfl, ?_⟩) ?_ ?_
                                  rotate_left
                                  · intro w'
                                    go_simp
                                    with_reducible rfl
                                  rotate_left
                                  · simp only [Act.put, List.setIfInBounds_toArray, List.set_cons_zero, List.set_cons_succ, i64_w, i32_w]
                                    rfl
                                  refine pure_ (i := 5) (N := some 36) (v := ?_) (a' := ?_) #[true, true, true, true, false, true, false, false, false, false, false] rfl rfl (any_of HT_.out (by kernel_rfl)) (fun _ _ _ h => h) (Or.inl ⟨by rfl, ?_⟩) ?_ ?_
                                  rotate_left
                                  · intro w'
                                    go_simp
                                    with_reducible rfl
                                  rotate_left
                                  · simp only [Act.put, List.setIfInBounds_toArray, List.set_cons_zero, List.set_cons_succ, i64_w, i32_w]
                                    rfl
                                  refine pure_ (i := 6) (N := some 37) (v := ?_) (a' := ?_) #[true, true, true, true, false, true, true, false, false, false, false] rfl rfl (any_of HT_.out (by kernel_rfl)) (fun _ _ _ h => h) (Or.inl ⟨by rfl, ?_⟩) ?_ ?_
                                  rotate_left
                                  · intro w'
                                    go_simp
                                    with_reducible rfl
                                  rotate_left
                                  · simp only [Act.put, List.setIfInBounds_toArray, List.set_cons_zero, List.set_cons_succ, i64_w, i32_w]
                                    rfl
                                  refine pure_ (i := 7) (N := some 38) (v := ?_) (a' := ?_) #[true, true, true, true, false, true, true, true, false, false, false] rfl rfl (any_of HT_.out (by kernel_rfl)) (fun _ _ _ h => h) (Or.inl ⟨by rfl, ?_⟩) ?_ ?_
                                  rotate_left
                                  · intro w'
                                    go_simp
                                    with_reducible rfl
                                  rotate_left
                                  · simp only [Act.put, List.setIfInBounds_toArray, List.set_cons_zero, List.set_cons_succ, i64_w, i32_w]
                                    rfl
                                  refine pure_ (i := 8) (N := some 39) (v := ?_) (a' := ?_) #[true, true, true, true, false, true, true, true, true, false, false] rfl rfl (any_of HT_.out (by kernel_rfl)) (fun _ _ _ h => h) (Or.inl ⟨by rfl, ?_⟩) ?_ ?_
                                  rotate_left
                                  · intro w'
                                    go_simp
                                    with_reducible rfl
                                  rotate_left
                                  · simp only [Act.put, List.setIfInBounds_toArray, List.set_cons_zero, List.set_cons_succ, i64_w, i32_w]
                                    rfl
                                  refine take_ (i := 4) (N := some 35) (v := ?_) (a' := ?_) #[true, true, true, true, true, true, true, true, true, false, false] rfl rfl (take_ofW HT_.out HW_.out (by kernel_rfl)) (fun _ _ _ h => h) (Or.inl ⟨by rfl, ?_⟩) hHeld ?_ ?_
                                  rotate_left
                                  · rintro w' ⟨s0, s1, s2, s3, s4, s5, s6, s7, s8, s9, s10, s11, s12, s13, s14, s15, s16, s17, s18, s19, s20, s21, s22, s23⟩
                                    go_simp
                                    with_reducible rfl
                                  rotate_left
                                  · simp only [Act.put, List.setIfInBounds_toArray, List.set_cons_zero, List.set_cons_succ, i64_w, i32_w]
                                    rfl
                                  refine take_ (i := 9) (N := some 40) (v := ?_) (a' := ?_) #[true, true, true, true, true, true, true, true, true, true, false] rfl rfl (take_ofW HT_.out HW_.out (by kernel_rfl)) (fun _ _ _ h => h) (Or.inl ⟨by rfl, ?_⟩) hHeld ?_ ?_
                                  rotate_left
                                  · rintro w' ⟨s0, s1, s2, s3, s4, s5, s6, s7, s8, s9, s10, s11, s12, s13, s14, s15, s16, s17, s18, s19, s20, s21, s22, s23⟩
                                    go_simp
                                    with_reducible rfl
                                  rotate_left
                                  · simp only [Act.put, List.setIfInBounds_toArray, List.set_cons_zero, List.set_cons_succ, i64_w, i32_w]
                                    rfl
                                  refine one_ (i := 10) (N := some 41) #[true, true, true, true, true, true, true, true, true, true, true] rfl rfl (one_of HT_.out (by kernel_rfl)) (by decide) (fun K hK => ?_)
                                  refine goes_ Try.func63 (by kernel_rfl) rfl #[.agg #[.int .i64 ((rd_T80 l0 x4_3).f0.f0), .string ((rd_T80 l0 x4_3).f0.f1), .int .i64 ((rd_T80 l0 x4_3).f0.f2), .slice A179_3 ((rd_T80 l0 x4_3).f0.f3).length c179_3, .slice A179_4 ((rd_T80 l0 x4_3).f0.f4).length c179_4], .agg #[.int .i64 ((rd_T80 l0 x3_1).f0.f0), .string ((rd_T80 l0 x3_1).f0.f1), .int .i64 ((rd_T80 l0 x3_1).f0.f2), .slice A180_3 ((rd_T80 l0 x3_1).f0.f3).length c180_3, .slice A180_4 ((rd_T80 l0 x3_1).f0.f4).length c180_4]] (by rfl) rfl rfl (by (try simp only [List.map_toArray, List.map_cons, List.map_nil]); first | done | rfl | (simp only [List.length_drop, List.length_take]; rfl)) ?_
                                  with_reducible refine (spec_FormSame.calls ((rd_T80 l0 x4_3).f0.f0) ((rd_T80 l0 x4_3).f0.f1) ((rd_T80 l0 x4_3).f0.f2) _ _ ((rd_T80 l0 x4_3).f0.f3) _ _ ((rd_T80 l0 x4_3).f0.f4) ((rd_T80 l0 x3_1).f0.f0) ((rd_T80 l0 x3_1).f0.f1) ((rd_T80 l0 x3_1).f0.f2) _ _ ((rd_T80 l0 x3_1).f0.f3) _ _ ((rd_T80 l0 x3_1).f0.f4) false _ ?side1 ?side2 ?side3 ?side4 ?side5 ?side6 ?side7 ?side8 A16.out).mono ?_
                                  (case side1 => repeat (first | exact (Kd.C_below HR179_3.out HB.out) | (with_reducible refine Kd.C_alloc ?_ _) | (with_reducible refine Kd.C_drewN ?_ _) | (with_reducible refine Kd.C_drew ?_)))
                                  (case side2 => exact HC179_3.out)
                                  (case side3 => repeat (first | exact (Kd.C_below HR179_4.out HB.out) | (with_reducible refine Kd.C_alloc ?_ _) | (with_reducible refine Kd.C_drewN ?_ _) | (with_reducible refine Kd.C_drew ?_)))
                                  (case side4 => exact HC179_4.out)
                                  (case side5 => repeat (first | exact (Kd.C_below HR180_3.out HB.out) | (with_reducible refine Kd.C_alloc ?_ _) | (with_reducible refine Kd.C_drewN ?_ _) | (with_reducible refine Kd.C_drew ?_)))
                                  (case side6 => exact HC180_3.out)
                                  (case side7 => repeat (first | exact (Kd.C_below HR180_4.out HB.out) | (with_reducible refine Kd.C_alloc ?_ _) | (with_reducible refine Kd.C_drewN ?_ _) | (with_reducible refine Kd.C_drew ?_)))
                                  (case side8 => exact HC180_4.out)
                                  rintro e w21 ⟨rfl, hb⟩
                                  refine ⟨_, rfl, ?_⟩
                                  have n0_ := Aside0.mk (below_step (by repeat (first | (with_reducible first | exact HB.out | apply below_alloc | apply pw_below_drewN | apply below_drew1) | exact HB.out)) hb)
                                  clear HB
                                  have HB := n0_
                                  clear n0_
                                  (try clear hb)
                                  (try clear hb2)
                                  (try clear hk)
                                  (try clear hi)
                                  refine hK.out _ _ ⟨((HB.out.cell (World.block_lt_of_cell? w _ hw179_0)).trans hw179_0), ((HB.out.cell (World.block_lt_of_cell? w _ hw179_1)).trans hw179_1), ((HB.out.cell (World.block_lt_of_cell? w _ hw179_2)).trans hw179_2), ((HB.out.cell (World.block_lt_of_cell? w _ hw179_3)).trans hw179_3), ((HB.out.cell (World.block_lt_of_cell? w _ hw179_4)).trans hw179_4), ((HB.out.cell (World.block_lt_of_cell? w _ hw179_5)).trans hw179_5), ((HB.out.cell (World.block_lt_of_cell? w _ hw179_6)).trans hw179_6), ((HB.out.cell (World.block_lt_of_cell? w _ hw179_7)).trans hw179_7), ((HB.out.cell (World.block_lt_of_cell? w _ hw179_8)).trans hw179_8), ((HB.out.cell (World.block_lt_of_cell? w _ hw179_9)).trans hw179_9), ((HB.out.cell (World.block_lt_of_cell? w _ hw179_10)).trans hw179_10), ((HB.out.cell (World.block_lt_of_cell? w _ hw179_11)).trans hw179_11), ((HB.out.cell (World.block_lt_of_cell? w _ hw180_0)).trans hw180_0), ((HB.out.cell (World.block_lt_of_cell? w _ hw180_1)).trans hw180_1), ((HB.out.cell (World.block_lt_of_cell? w _ hw180_2)).trans hw180_2), ((HB.out.cell (World.block_lt_of_cell? w _ hw180_3)).trans hw180_3), ((HB.out.cell (World.block_lt_of_cell? w _ hw180_4)).trans hw180_4), ((HB.out.cell (World.block_lt_of_cell? w _ hw180_5)).trans hw180_5), ((HB.out.cell (World.block_lt_of_cell? w _ hw180_6)).trans hw180_6), ((HB.out.cell (World.block_lt_of_cell? w _ hw180_7)).trans hw180_7), ((HB.out.cell (World.block_lt_of_cell? w _ hw180_8)).trans hw180_8), ((HB.out.cell (World.block_lt_of_cell? w _ hw180_9)).trans hw180_9), ((HB.out.cell (World.block_lt_of_cell? w _ hw180_10)).trans hw180_10), ((HB.out.cell (World.block_lt_of_cell? w _ hw180_11)).trans hw180_11)⟩ (fun hHeld => ?_)
                                  clear hK K
                                  refine norm_ (a' := ?_) ?_ ?_
                                  rotate_left
                                  · show Act.put _ (some 41) _ = _
                                    simp only [Act.put, List.setIfInBounds_toArray, List.set_cons_zero, List.set_cons_succ, i64_w, i32_w]
                                    rfl
                                  refine done_ (done_of HT_.out (by kernel_rfl)) ?_
                                  try go_wp2
                                  go_roundg k3
                                  case measure => have := HK1.out; have := HJ1.out; have := HK3.out; omega
                                  case rel => exact ⟨(wrap64 (x4_3 + 1)), (by first | rfl | (simp; done) | (simp [*]; done)), H', ⟨by have := HK1.out; have := HJ1.out; have := HK3.out; omega⟩, ⟨by repeat (first | (with_reducible first | exact HB.out | apply below_alloc | apply pw_below_drewN | apply below_drew1) | exact HB.out)⟩⟩
                              · rw [if_neg c15] at H
                                exact absurd H (by simp)
                            · rw [if_neg c14] at H
                              exact absurd H (by simp)
                          · rw [if_neg c13] at H
                            exact absurd H (by simp)
                        · rw [if_neg c12] at H
                          exact absurd H (by simp)
                      · rw [if_neg c11] at H
                        have c11b0 : decide (x4_3 < x3_1) = false := decide_eq_false c11
                        clear c11
                        have H' := Aside0.mk H
                        clear H
                        go_wp2
                        go_roundg k3
                        case measure => have := HK1.out; have := HJ1.out; have := HK3.out; omega
                        case rel => exact ⟨(wrap64 (x3_1 + 1)), (by first | rfl | (simp; done) | (simp [*]; done)), H', ⟨by have := HK1.out; have := HJ1.out; have := HK3.out; omega⟩, ⟨by repeat (first | (with_reducible first | exact HB.out | apply below_alloc | apply pw_below_drewN | apply below_drew1) | exact HB.out)⟩⟩
                · replace c8 := Bool.eq_false_iff.mpr c8
                  subst c8
                  have H1 : (some false) = some r := by rw [if_neg (show ¬ (false = true) by decide)] at H; exact H
                  clear H
                  have H := H1
                  clear H1
                  obtain rfl := Option.some.inj H
                  try go_wp2
                  have n0_ := Aside0.mk (below_drew1 HB.out)
                  clear HB
                  have HB := n0_
                  clear n0_
                  have p176 : 0 ≤ (x3_1 : Int) := of_decide_eq_true (by first | (with_reducible assumption) | assumption)
                  have q176 : x3_1 < (l0.length : Int) := of_decide_eq_true (by first | (with_reducible assumption) | assumption)
                  obtain ⟨ad176, A176_3, c176_3, A176_4, c176_4, A176_9, c176_9, A176_10, c176_10, A176_11, c176_11, e176, hx176_0, hx176_1, hx176_2, hx176_3, hx176_4, hx176_5, hx176_6, hx176_7, hx176_8, hx176_9, hx176_10, hx176_11, hl176_3, hi176_3, hl176_4, hi176_4, hl176_9, hi176_9, hl176_10, hi176_10, hl176_11, hi176_11⟩ := at_T80 HR0.out x3_1 p176 q176
                  have hw176_11 := hx176_11
                  have hw176_10 := hx176_10
                  have hw176_9 := hx176_9
                  have hw176_8 := hx176_8
                  have hw176_7 := hx176_7
                  have hw176_6 := hx176_6
                  have hw176_5 := hx176_5
                  have hw176_4 := hx176_4
                  have hw176_3 := hx176_3
                  have hw176_2 := hx176_2
                  have hw176_1 := hx176_1
                  have hw176_0 := hx176_0
                  cases e176
                  replace hx176_0 := (HB.out.cell (World.block_lt_of_cell? w _ hx176_0)).trans hx176_0
                  replace hx176_1 := (HB.out.cell (World.block_lt_of_cell? w _ hx176_1)).trans hx176_1
                  replace hx176_2 := (HB.out.cell (World.block_lt_of_cell? w _ hx176_2)).trans hx176_2
                  replace hx176_3 := (HB.out.cell (World.block_lt_of_cell? w _ hx176_3)).trans hx176_3
                  replace hx176_4 := (HB.out.cell (World.block_lt_of_cell? w _ hx176_4)).trans hx176_4
                  replace hx176_5 := (HB.out.cell (World.block_lt_of_cell? w _ hx176_5)).trans hx176_5
                  replace hx176_6 := (HB.out.cell (World.block_lt_of_cell? w _ hx176_6)).trans hx176_6
                  replace hx176_7 := (HB.out.cell (World.block_lt_of_cell? w _ hx176_7)).trans hx176_7
                  replace hx176_8 := (HB.out.cell (World.block_lt_of_cell? w _ hx176_8)).trans hx176_8
                  replace hx176_9 := (HB.out.cell (World.block_lt_of_cell? w _ hx176_9)).trans hx176_9
                  replace hx176_10 := (HB.out.cell (World.block_lt_of_cell? w _ hx176_10)).trans hx176_10
                  replace hx176_11 := (HB.out.cell (World.block_lt_of_cell? w _ hx176_11)).trans hx176_11
                  have HR176_3 := Aside0.mk hi176_3
                  have HC176_3 := Aside0.mk hl176_3
                  clear hi176_3 hl176_3
                  have HR176_4 := Aside0.mk hi176_4
                  have HC176_4 := Aside0.mk hl176_4
                  clear hi176_4 hl176_4
                  have HR176_9 := Aside0.mk hi176_9
                  have HC176_9 := Aside0.mk hl176_9
                  clear hi176_9 hl176_9
                  have HR176_10 := Aside0.mk hi176_10
                  have HC176_10 := Aside0.mk hl176_10
                  clear hi176_10 hl176_10
                  have HR176_11 := Aside0.mk hi176_11
                  have HC176_11 := Aside0.mk hl176_11
                  clear hi176_11 hl176_11
                  replace p176 := eq_true p176
                  replace q176 := eq_true q176
                  have p177 : 0 ≤ (x3_1 : Int) := of_decide_eq_true (by first | (with_reducible assumption) | assumption)
                  have q177 : x3_1 < (l0.length : Int) := of_decide_eq_true (by first | (with_reducible assumption) | assumption)
                  obtain ⟨ad177, A177_3, c177_3, A177_4, c177_4, A177_9, c177_9, A177_10, c177_10, A177_11, c177_11, e177, hx177_0, hx177_1, hx177_2, hx177_3, hx177_4, hx177_5, hx177_6, hx177_7, hx177_8, hx177_9, hx177_10, hx177_11, hl177_3, hi177_3, hl177_4, hi177_4, hl177_9, hi177_9, hl177_10, hi177_10, hl177_11, hi177_11⟩ := at_T80 HR0.out x3_1 p177 q177
                  have hw177_11 := hx177_11
                  have hw177_10 := hx177_10
                  have hw177_9 := hx177_9
                  have hw177_8 := hx177_8
                  have hw177_7 := hx177_7
                  have hw177_6 := hx177_6
                  have hw177_5 := hx177_5
                  have hw177_4 := hx177_4
                  have hw177_3 := hx177_3
                  have hw177_2 := hx177_2
                  have hw177_1 := hx177_1
                  have hw177_0 := hx177_0
                  obtain rfl : ad176 = ad177 := (by injection e177)
                  replace hx177_0 := (HB.out.cell (World.block_lt_of_cell? w _ hx177_0)).trans hx177_0
                  replace hx177_1 := (HB.out.cell (World.block_lt_of_cell? w _ hx177_1)).trans hx177_1
                  replace hx177_2 := (HB.out.cell (World.block_lt_of_cell? w _ hx177_2)).trans hx177_2
                  replace hx177_3 := (HB.out.cell (World.block_lt_of_cell? w _ hx177_3)).trans hx177_3
                  replace hx177_4 := (HB.out.cell (World.block_lt_of_cell? w _ hx177_4)).trans hx177_4
                  replace hx177_5 := (HB.out.cell (World.block_lt_of_cell? w _ hx177_5)).trans hx177_5
                  replace hx177_6 := (HB.out.cell (World.block_lt_of_cell? w _ hx177_6)).trans hx177_6
                  replace hx177_7 := (HB.out.cell (World.block_lt_of_cell? w _ hx177_7)).trans hx177_7
                  replace hx177_8 := (HB.out.cell (World.block_lt_of_cell? w _ hx177_8)).trans hx177_8
                  replace hx177_9 := (HB.out.cell (World.block_lt_of_cell? w _ hx177_9)).trans hx177_9
                  replace hx177_10 := (HB.out.cell (World.block_lt_of_cell? w _ hx177_10)).trans hx177_10
                  replace hx177_11 := (HB.out.cell (World.block_lt_of_cell? w _ hx177_11)).trans hx177_11
                  have HR177_3 := Aside0.mk hi177_3
                  have HC177_3 := Aside0.mk hl177_3
                  clear hi177_3 hl177_3
                  have HR177_4 := Aside0.mk hi177_4
                  have HC177_4 := Aside0.mk hl177_4
                  clear hi177_4 hl177_4
                  have HR177_9 := Aside0.mk hi177_9
                  have HC177_9 := Aside0.mk hl177_9
                  clear hi177_9 hl177_9
                  have HR177_10 := Aside0.mk hi177_10
                  have HC177_10 := Aside0.mk hl177_10
                  clear hi177_10 hl177_10
                  have HR177_11 := Aside0.mk hi177_11
                  have HC177_11 := Aside0.mk hl177_11
                  clear hi177_11 hl177_11
                  replace p177 := eq_true p177
                  replace q177 := eq_true q177
                  have ea_ := Option.some.inj (hx176_3.symm.trans hx177_3)
                  injection ea_ with ea_ en_ ec_
                  subst ea_
                  subst ec_
                  clear en_
                  have ea_ := Option.some.inj (hx176_4.symm.trans hx177_4)
                  injection ea_ with ea_ en_ ec_
                  subst ea_
                  subst ec_
                  clear en_
                  have ea_ := Option.some.inj (hx176_9.symm.trans hx177_9)
                  injection ea_ with ea_ en_ ec_
                  subst ea_
                  subst ec_
                  clear en_
                  have ea_ := Option.some.inj (hx176_10.symm.trans hx177_10)
                  injection ea_ with ea_ en_ ec_
                  subst ea_
                  subst ec_
                  clear en_
                  have ea_ := Option.some.inj (hx176_11.symm.trans hx177_11)
                  injection ea_ with ea_ en_ ec_
                  subst ea_
                  subst ec_
                  clear en_
                  refine start_ (n := 11) (S := fun w' => w'.cell? (ad176.add ((x3_1).toNat * 12)) = some (.int .i64 ((rd_T80 l0 x3_1).f0.f0)) ∧ w'.cell? ⟨(ad176.add ((x3_1).toNat * 12)).block, (ad176.add ((x3_1).toNat * 12)).off + 1, none⟩ = some (.string ((rd_T80 l0 x3_1).f0.f1)) ∧ w'.cell? ⟨(ad176.add ((x3_1).toNat * 12)).block, (ad176.add ((x3_1).toNat * 12)).off + 2, none⟩ = some (.int .i64 ((rd_T80 l0 x3_1).f0.f2)) ∧ w'.cell? ⟨(ad176.add ((x3_1).toNat * 12)).block, (ad176.add ((x3_1).toNat * 12)).off + 3, none⟩ = some (.slice A176_3 ((rd_T80 l0 x3_1).f0.f3).length c176_3) ∧ w'.cell? ⟨(ad176.add ((x3_1).toNat * 12)).block, (ad176.add ((x3_1).toNat * 12)).off + 4, none⟩ = some (.slice A176_4 ((rd_T80 l0 x3_1).f0.f4).length c176_4) ∧ w'.cell? ⟨(ad176.add ((x3_1).toNat * 12)).block, (ad176.add ((x3_1).toNat * 12)).off + 5, none⟩ = some (.int .i64 ((rd_T80 l0 x3_1).f1)) ∧ w'.cell? ⟨(ad176.add ((x3_1).toNat * 12)).block, (ad176.add ((x3_1).toNat * 12)).off + 6, none⟩ = some (.int .i64 ((rd_T80 l0 x3_1).f2.f0)) ∧ w'.cell? ⟨(ad176.add ((x3_1).toNat * 12)).block, (ad176.add ((x3_1).toNat * 12)).off + 7, none⟩ = some (.string ((rd_T80 l0 x3_1).f2.f1)) ∧ w'.cell? ⟨(ad176.add ((x3_1).toNat * 12)).block, (ad176.add ((x3_1).toNat * 12)).off + 8, none⟩ = some (.int .i64 ((rd_T80 l0 x3_1).f2.f2)) ∧ w'.cell? ⟨(ad176.add ((x3_1).toNat * 12)).block, (ad176.add ((x3_1).toNat * 12)).off + 9, none⟩ = some (.slice A176_9 ((rd_T80 l0 x3_1).f2.f3).length c176_9) ∧ w'.cell? ⟨(ad176.add ((x3_1).toNat * 12)).block, (ad176.add ((x3_1).toNat * 12)).off + 10, none⟩ = some (.slice A176_10 ((rd_T80 l0 x3_1).f2.f4).length c176_10) ∧ w'.cell? ⟨(ad176.add ((x3_1).toNat * 12)).block, (ad176.add ((x3_1).toNat * 12)).off + 11, none⟩ = some (.slice A176_11 ((rd_T80 l0 x3_1).f3).length c176_11) ∧ w'.cell? (ad176.add ((x3_1).toNat * 12)) = some (.int .i64 ((rd_T80 l0 x3_1).f0.f0)) ∧ w'.cell? ⟨(ad176.add ((x3_1).toNat * 12)).block, (ad176.add ((x3_1).toNat * 12)).off + 1, none⟩ = some (.string ((rd_T80 l0 x3_1).f0.f1)) ∧ w'.cell? ⟨(ad176.add ((x3_1).toNat * 12)).block, (ad176.add ((x3_1).toNat * 12)).off + 2, none⟩ = some (.int .i64 ((rd_T80 l0 x3_1).f0.f2)) ∧ w'.cell? ⟨(ad176.add ((x3_1).toNat * 12)).block, (ad176.add ((x3_1).toNat * 12)).off + 3, none⟩ = some (.slice A176_3 ((rd_T80 l0 x3_1).f0.f3).length c176_3) ∧ w'.cell? ⟨(ad176.add ((x3_1).toNat * 12)).block, (ad176.add ((x3_1).toNat * 12)).off + 4, none⟩ = some (.slice A176_4 ((rd_T80 l0 x3_1).f0.f4).length c176_4) ∧ w'.cell? ⟨(ad176.add ((x3_1).toNat * 12)).block, (ad176.add ((x3_1).toNat * 12)).off + 5, none⟩ = some (.int .i64 ((rd_T80 l0 x3_1).f1)) ∧ w'.cell? ⟨(ad176.add ((x3_1).toNat * 12)).block, (ad176.add ((x3_1).toNat * 12)).off + 6, none⟩ = some (.int .i64 ((rd_T80 l0 x3_1).f2.f0)) ∧ w'.cell? ⟨(ad176.add ((x3_1).toNat * 12)).block, (ad176.add ((x3_1).toNat * 12)).off + 7, none⟩ = some (.string ((rd_T80 l0 x3_1).f2.f1)) ∧ w'.cell? ⟨(ad176.add ((x3_1).toNat * 12)).block, (ad176.add ((x3_1).toNat * 12)).off + 8, none⟩ = some (.int .i64 ((rd_T80 l0 x3_1).f2.f2)) ∧ w'.cell? ⟨(ad176.add ((x3_1).toNat * 12)).block, (ad176.add ((x3_1).toNat * 12)).off + 9, none⟩ = some (.slice A176_9 ((rd_T80 l0 x3_1).f2.f3).length c176_9) ∧ w'.cell? ⟨(ad176.add ((x3_1).toNat * 12)).block, (ad176.add ((x3_1).toNat * 12)).off + 10, none⟩ = some (.slice A176_10 ((rd_T80 l0 x3_1).f2.f4).length c176_10) ∧ w'.cell? ⟨(ad176.add ((x3_1).toNat * 12)).block, (ad176.add ((x3_1).toNat * 12)).off + 11, none⟩ = some (.slice A176_11 ((rd_T80 l0 x3_1).f3).length c176_11)) (ds := []) #[false, false, false, false, false, false, false, false, false, false, false] (by kernel_rfl) rfl rfl ⟨((HB.out.cell (World.block_lt_of_cell? w _ hw176_0)).trans hw176_0), ((HB.out.cell (World.block_lt_of_cell? w _ hw176_1)).trans hw176_1), ((HB.out.cell (World.block_lt_of_cell? w _ hw176_2)).trans hw176_2), ((HB.out.cell (World.block_lt_of_cell? w _ hw176_3)).trans hw176_3), ((HB.out.cell (World.block_lt_of_cell? w _ hw176_4)).trans hw176_4), ((HB.out.cell (World.block_lt_of_cell? w _ hw176_5)).trans hw176_5), ((HB.out.cell (World.block_lt_of_cell? w _ hw176_6)).trans hw176_6), ((HB.out.cell (World.block_lt_of_cell? w _ hw176_7)).trans hw176_7), ((HB.out.cell (World.block_lt_of_cell? w _ hw176_8)).trans hw176_8), ((HB.out.cell (World.block_lt_of_cell? w _ hw176_9)).trans hw176_9), ((HB.out.cell (World.block_lt_of_cell? w _ hw176_10)).trans hw176_10), ((HB.out.cell (World.block_lt_of_cell? w _ hw176_11)).trans hw176_11), ((HB.out.cell (World.block_lt_of_cell? w _ hw177_0)).trans hw177_0), ((HB.out.cell (World.block_lt_of_cell? w _ hw177_1)).trans hw177_1), ((HB.out.cell (World.block_lt_of_cell? w _ hw177_2)).trans hw177_2), ((HB.out.cell (World.block_lt_of_cell? w _ hw177_3)).trans hw177_3), ((HB.out.cell (World.block_lt_of_cell? w _ hw177_4)).trans hw177_4), ((HB.out.cell (World.block_lt_of_cell? w _ hw177_5)).trans hw177_5), ((HB.out.cell (World.block_lt_of_cell? w _ hw177_6)).trans hw177_6), ((HB.out.cell (World.block_lt_of_cell? w _ hw177_7)).trans hw177_7), ((HB.out.cell (World.block_lt_of_cell? w _ hw177_8)).trans hw177_8), ((HB.out.cell (World.block_lt_of_cell? w _ hw177_9)).trans hw177_9), ((HB.out.cell (World.block_lt_of_cell? w _ hw177_10)).trans hw177_10), ((HB.out.cell (World.block_lt_of_cell? w _ hw177_11)).trans hw177_11)⟩ (fun hHeld => ?_); refine with_tabW spec_HitsValid.tab4 spec_HitsValid.bits4 (fun HT_ HW_ => ?_)
                  generalize wc.drew = w22 at HB HR176_10 HR176_11 HR176_3 HR176_4 HR176_9 HR177_10 HR177_11 HR177_3 HR177_4 HR177_9 hx176_0 hx176_1 hx176_10 hx176_11 hx176_2 hx176_3 hx176_4 hx176_5 hx176_6 hx176_7 hx176_8 hx176_9 hx177_0 hx177_1 hx177_10 hx177_11 hx177_2 hx177_3 hx177_4 hx177_5 hx177_6 hx177_7 hx177_8 hx177_9 hHeld ⊢
                  refine pure_ (i := 0) (N := some 15) (v := ?_) (a' := ?_) #[true, false, false, false, false, false, false, false, false, false, false] rfl rfl (any_of HT_.out (by kernel_rfl)) (fun _ _ _ h => h) (Or.inl ⟨by rfl, ?_⟩) ?_ ?_
                  rotate_left
                  · intro w'
                    go_simp
                    with_reducible rfl
                  rotate_left
                  · simp only [Act.put, List.setIfInBounds_toArray, List.set_cons_zero, List.set_cons_succ, i64_w, i32_w]
                    rfl
                  refine pure_ (i := 1) (N := some 16) (v := ?_) (a' := ?_) #[true, true, false, false, false, false, false, false, false, false, false] rfl rfl (any_of HT_.out (by kernel_rfl)) (fun _ _ _ h => h) (Or.inl ⟨by rfl, ?_⟩) ?_ ?_
                  rotate_left
                  · intro w'
                    go_simp
                    with_reducible rfl
                  rotate_left
                  · simp only [Act.put, List.setIfInBounds_toArray, List.set_cons_zero, List.set_cons_succ, i64_w, i32_w]
                    rfl
                  refine pure_ (i := 2) (N := some 17) (v := ?_) (a' := ?_) #[true, true, true, false, false, false, false, false, false, false, false] rfl rfl (any_of HT_.out (by kernel_rfl)) (fun _ _ _ h => h) (Or.inl ⟨by rfl, ?_⟩) ?_ ?_
                  rotate_left
                  · intro w'
                    go_simp
                    with_reducible rfl
                  rotate_left
                  · simp only [Act.put, List.setIfInBounds_toArray, List.set_cons_zero, List.set_cons_succ, i64_w, i32_w]
                    rfl
                  refine pure_ (i := 4) (N := some 19) (v := ?_) (a' := ?_) #[true, true, true, false, true, false, false, false, false, false, false] rfl rfl (any_of HT_.out (by kernel_rfl)) (fun _ _ _ h => h) (Or.inl ⟨by rfl, ?_⟩) ?_ ?_
                  rotate_left
                  · intro w'
                    go_simp
                    with_reducible rfl
                  rotate_left
                  · simp only [Act.put, List.setIfInBounds_toArray, List.set_cons_zero, List.set_cons_succ, i64_w, i32_w]
                    rfl
                  refine pure_ (i := 5) (N := some 20) (v := ?_) (a' := ?_) #[true, true, true, false, true, true, false, false, false, false, false] rfl rfl (any_of HT_.out (by kernel_rfl)) (fun _ _ _ h => h) (Or.inl ⟨by rfl, ?_⟩) ?_ ?_
                  rotate_left
                  · intro w'
                    go_simp
                    with_reducible rfl
                  rotate_left
                  · simp only [Act.put, List.setIfInBounds_toArray, List.set_cons_zero, List.set_cons_succ, i64_w, i32_w]
                    rfl
                  refine pure_ (i := 6) (N := some 21) (v := ?_) (a' := ?_) #[true, true, true, false, true, true, true, false, false, false, false] rfl rfl (any_of HT_.out (by kernel_rfl)) (fun _ _ _ h => h) (Or.inl ⟨by rfl, ?_⟩) ?_ ?_
                  rotate_left
                  · intro w'
                    go_simp
                    with_reducible rfl
                  rotate_left
                  · simp only [Act.put, List.setIfInBounds_toArray, List.set_cons_zero, List.set_cons_succ, i64_w, i32_w]
                    rfl
                  refine pure_ (i := 7) (N := some 22) (v := ?_) (a' := ?_) #[true, true, true, false, true, true, true, true, false, false, false] rfl rfl (any_of HT_.out (by kernel_rfl)) (fun _ _ _ h => h) (Or.inl ⟨by rfl, ?_⟩) ?_ ?_
                  rotate_left
                  · intro w'
                    go_simp
                    with_reducible rfl
                  rotate_left
                  · simp only [Act.put, List.setIfInBounds_toArray, List.set_cons_zero, List.set_cons_succ, i64_w, i32_w]
                    rfl
                  refine take_ (i := 3) (N := some 18) (v := ?_) (a' := ?_) #[true, true, true, true, true, true, true, true, false, false, false] rfl rfl (take_ofW HT_.out HW_.out (by kernel_rfl)) (fun _ _ _ h => h) (Or.inl ⟨by rfl, ?_⟩) hHeld ?_ ?_
                  rotate_left
                  · rintro w' ⟨s0, s1, s2, s3, s4, s5, s6, s7, s8, s9, s10, s11, s12, s13, s14, s15, s16, s17, s18, s19, s20, s21, s22, s23⟩
                    go_simp
                    with_reducible rfl
                  rotate_left
                  · simp only [Act.put, List.setIfInBounds_toArray, List.set_cons_zero, List.set_cons_succ, i64_w, i32_w]
                    rfl
                  refine take_ (i := 8) (N := some 23) (v := ?_) (a' := ?_) #[true, true, true, true, true, true, true, true, true, false, false] rfl rfl (take_ofW HT_.out HW_.out (by kernel_rfl)) (fun _ _ _ h => h) (Or.inl ⟨by rfl, ?_⟩) hHeld ?_ ?_
                  rotate_left
                  · rintro w' ⟨s0, s1, s2, s3, s4, s5, s6, s7, s8, s9, s10, s11, s12, s13, s14, s15, s16, s17, s18, s19, s20, s21, s22, s23⟩
                    go_simp
                    with_reducible rfl
                  rotate_left
                  · simp only [Act.put, List.setIfInBounds_toArray, List.set_cons_zero, List.set_cons_succ, i64_w, i32_w]
                    rfl
                  refine one_ (i := 9) (N := some 24) #[true, true, true, true, true, true, true, true, true, true, false] rfl rfl (one_of HT_.out (by kernel_rfl)) (by decide) (fun K hK => ?_)
                  refine goes_ Try.func68 (by kernel_rfl) rfl #[.agg #[.int .i64 ((rd_T80 l0 x3_1).f0.f0), .string ((rd_T80 l0 x3_1).f0.f1), .int .i64 ((rd_T80 l0 x3_1).f0.f2), .slice A176_3 ((rd_T80 l0 x3_1).f0.f3).length c176_3, .slice A176_4 ((rd_T80 l0 x3_1).f0.f4).length c176_4, .int .i64 ((rd_T80 l0 x3_1).f1), .int .i64 ((rd_T80 l0 x3_1).f2.f0), .string ((rd_T80 l0 x3_1).f2.f1), .int .i64 ((rd_T80 l0 x3_1).f2.f2), .slice A176_9 ((rd_T80 l0 x3_1).f2.f3).length c176_9, .slice A176_10 ((rd_T80 l0 x3_1).f2.f4).length c176_10, .slice A176_11 ((rd_T80 l0 x3_1).f3).length c176_11], .int .i64 ((rd_T80 l0 x3_1).f1)] (by rfl) rfl rfl (by (try simp only [List.map_toArray, List.map_cons, List.map_nil]); first | done | rfl | (simp only [List.length_drop, List.length_take]; rfl)) ?_
                  with_reducible refine (spec_l4Hit.calls kj1 ((rd_T80 l0 x3_1).f0.f0) ((rd_T80 l0 x3_1).f0.f1) ((rd_T80 l0 x3_1).f0.f2) _ _ ((rd_T80 l0 x3_1).f0.f3) _ _ ((rd_T80 l0 x3_1).f0.f4) ((rd_T80 l0 x3_1).f1) ((rd_T80 l0 x3_1).f2.f0) ((rd_T80 l0 x3_1).f2.f1) ((rd_T80 l0 x3_1).f2.f2) _ _ ((rd_T80 l0 x3_1).f2.f3) _ _ ((rd_T80 l0 x3_1).f2.f4) _ _ ((rd_T80 l0 x3_1).f3) ((rd_T80 l0 x3_1).f1) false _ ?side1 ?side2 ?side3 ?side4 ?side5 ?side6 ?side7 ?side8 ?side9 ?side10 A7.out).mono ?_
                  (case side1 => repeat (first | exact (Kd.C_below HR176_3.out HB.out) | (with_reducible refine Kd.C_alloc ?_ _) | (with_reducible refine Kd.C_drewN ?_ _) | (with_reducible refine Kd.C_drew ?_)))
                  (case side2 => exact HC176_3.out)
                  (case side3 => repeat (first | exact (Kd.C_below HR176_4.out HB.out) | (with_reducible refine Kd.C_alloc ?_ _) | (with_reducible refine Kd.C_drewN ?_ _) | (with_reducible refine Kd.C_drew ?_)))
                  (case side4 => exact HC176_4.out)
                  (case side5 => repeat (first | exact (Kd.C_below HR176_9.out HB.out) | (with_reducible refine Kd.C_alloc ?_ _) | (with_reducible refine Kd.C_drewN ?_ _) | (with_reducible refine Kd.C_drew ?_)))
                  (case side6 => exact HC176_9.out)
                  (case side7 => repeat (first | exact (Kd.C_below HR176_10.out HB.out) | (with_reducible refine Kd.C_alloc ?_ _) | (with_reducible refine Kd.C_drewN ?_ _) | (with_reducible refine Kd.C_drew ?_)))
                  (case side8 => exact HC176_10.out)
                  (case side9 => repeat (first | exact (Kd.C_below HR176_11.out HB.out) | (with_reducible refine Kd.C_alloc ?_ _) | (with_reducible refine Kd.C_drewN ?_ _) | (with_reducible refine Kd.C_drew ?_)))
                  (case side10 => exact HC176_11.out)
                  rintro e w23 ⟨rfl, hb⟩
                  refine ⟨_, rfl, ?_⟩
                  have n0_ := Aside0.mk (below_step (by repeat (first | (with_reducible first | exact HB.out | apply below_alloc | apply pw_below_drewN | apply below_drew1) | exact HB.out)) hb)
                  clear HB
                  have HB := n0_
                  clear n0_
                  (try clear hb)
                  (try clear hb2)
                  (try clear hk)
                  (try clear hi)
                  refine hK.out _ _ ⟨((HB.out.cell (World.block_lt_of_cell? w _ hw176_0)).trans hw176_0), ((HB.out.cell (World.block_lt_of_cell? w _ hw176_1)).trans hw176_1), ((HB.out.cell (World.block_lt_of_cell? w _ hw176_2)).trans hw176_2), ((HB.out.cell (World.block_lt_of_cell? w _ hw176_3)).trans hw176_3), ((HB.out.cell (World.block_lt_of_cell? w _ hw176_4)).trans hw176_4), ((HB.out.cell (World.block_lt_of_cell? w _ hw176_5)).trans hw176_5), ((HB.out.cell (World.block_lt_of_cell? w _ hw176_6)).trans hw176_6), ((HB.out.cell (World.block_lt_of_cell? w _ hw176_7)).trans hw176_7), ((HB.out.cell (World.block_lt_of_cell? w _ hw176_8)).trans hw176_8), ((HB.out.cell (World.block_lt_of_cell? w _ hw176_9)).trans hw176_9), ((HB.out.cell (World.block_lt_of_cell? w _ hw176_10)).trans hw176_10), ((HB.out.cell (World.block_lt_of_cell? w _ hw176_11)).trans hw176_11), ((HB.out.cell (World.block_lt_of_cell? w _ hw177_0)).trans hw177_0), ((HB.out.cell (World.block_lt_of_cell? w _ hw177_1)).trans hw177_1), ((HB.out.cell (World.block_lt_of_cell? w _ hw177_2)).trans hw177_2), ((HB.out.cell (World.block_lt_of_cell? w _ hw177_3)).trans hw177_3), ((HB.out.cell (World.block_lt_of_cell? w _ hw177_4)).trans hw177_4), ((HB.out.cell (World.block_lt_of_cell? w _ hw177_5)).trans hw177_5), ((HB.out.cell (World.block_lt_of_cell? w _ hw177_6)).trans hw177_6), ((HB.out.cell (World.block_lt_of_cell? w _ hw177_7)).trans hw177_7), ((HB.out.cell (World.block_lt_of_cell? w _ hw177_8)).trans hw177_8), ((HB.out.cell (World.block_lt_of_cell? w _ hw177_9)).trans hw177_9), ((HB.out.cell (World.block_lt_of_cell? w _ hw177_10)).trans hw177_10), ((HB.out.cell (World.block_lt_of_cell? w _ hw177_11)).trans hw177_11)⟩ (fun hHeld => ?_)
                  clear hK K
                  refine norm_ (a' := ?_) ?_ ?_
                  rotate_left
                  · show Act.put _ (some 24) _ = _
                    simp only [Act.put, List.setIfInBounds_toArray, List.set_cons_zero, List.set_cons_succ, i64_w, i32_w]
                    rfl
                  refine pure_ (i := 10) (N := some 25) (v := ?_) (a' := ?_) #[true, true, true, true, true, true, true, true, true, true, true] rfl rfl (any_of HT_.out (by kernel_rfl)) (fun _ _ _ h => h) (Or.inl ⟨by rfl, ?_⟩) ?_ ?_
                  rotate_left
                  · intro w'
                    go_simp
                    with_reducible rfl
                  rotate_left
                  · simp only [Act.put, List.setIfInBounds_toArray, List.set_cons_zero, List.set_cons_succ, i64_w, i32_w]
                    rfl
                  refine done_ (done_of HT_.out (by kernel_rfl)) ?_
                  try go_wp2
                  go_ret
                  exact ⟨by first | rfl | (simp [errW_none, errW_some] <;> rfl) | (simp [*, errW_none, errW_some] <;> rfl), by repeat (first | (with_reducible first | exact HB.out | apply below_alloc | apply pw_below_drewN | apply below_drew1) | exact HB.out)⟩
              · rw [if_neg c6] at H
                exact absurd H (by simp)
            · rw [if_neg c5] at H
              exact absurd H (by simp)
          · replace c4 := Bool.eq_false_iff.mpr c4
            subst c4
            have H1 : (some (decide ((l0.length : Int) ≤ 20))) = some r := by rw [if_neg (show ¬ (false = true) by decide)] at H; exact H
            clear H
            have H := H1
            clear H1
            obtain rfl := Option.some.inj H
            go_wp2
            go_ret
            exact ⟨by first | rfl | (simp [errW_none, errW_some] <;> rfl) | (simp [*, errW_none, errW_some] <;> rfl), by repeat (first | (with_reducible first | exact HB.out | apply below_alloc | apply pw_below_drewN | apply below_drew1) | exact HB.out)⟩

end Go.Proofs.Ytlklclebjeeaaaa.Q
end
section
namespace Go.Proofs.Ytlklclebjeeaaaa
open Go.RowKit Go.Proofs.YtlklclebjeeaaaaW.PrintWords
set_option linter.unusedVariables false
set_option linter.unusedSimpArgs false
theorem rdH {l : List Ht} {i : Nat} (h : i < l.length) : Q.rd_T80 l (i : Int) = l[i] := by
  simp [Q.rd_T80, List.getD, h]
def HitAt (l : List Ht) (i : Nat) : Prop := ∀ (h : i < l.length), HtOk l[i] ∧ (l.take i).any (fun x => eqB x.f0 l[i].f0) = false
/-- A row of hits is well-formed. -/
def HitsOk (l : List Ht) : Prop := l.length ≤ 20 ∧ ∀ i, HitAt l i
section
open Go.Proofs.Ytlklclebjeeaaaa.Q
theorem fs_eq (x y : Fm) : spec_FormSame.f x.f0 x.f1 x.f2 x.f3 x.f4 y.f0 y.f1 y.f2 y.f3 y.f4 = some (eqB x y) := by cases x; cases y; rfl
theorem fs_zero (x : Fm) : spec_FormSame.f x.f0 x.f1 x.f2 x.f3 x.f4 0 (⟨#[]⟩ : ByteArray) 0 ([] : List Int) ([] : List Fm) = some (eqB x zFm) := by cases x; rfl
theorem fv_eq {x : Fm} (hx : x.tot ≤ 1048576) : spec_FormValid.f x.f0 x.f1 x.f2 x.f3 x.f4 = some (pB (FmOk x)) := by cases x; exact gIf_yes hx _
theorem l3_eq {x : Fm} (hx : x.tot ≤ 1048576) : spec_l3Is.f x.f0 x.f1 x.f2 x.f3 x.f4 = some (pB (IsName x)) := by
  unfold spec_l3Is.f
  by_cases h : x.f0 = 1
  · rw [if_pos h, fv_eq hx]
    show some (pB (FmOk x)) = _
    congr 1
    by_cases hv : FmOk x
    · rw [pB_iff.2 hv, pB_iff.2 ⟨h, hv⟩]
    · rw [← pB_no hv, ← pB_no (fun k : IsName x => hv k.2)]
  · rw [if_neg h, ← pB_no (fun k : IsName x => h k.1)]
theorem ev_l4Hit (h : Ht) : h.tot ≤ 1048576 → ∀ d : Int, Ev (fun k => spec_l4Hit.f k h.f0.f0 h.f0.f1 h.f0.f2 h.f0.f3 h.f0.f4 h.f1 h.f2.f0 h.f2.f1 h.f2.f2 h.f2.f3 h.f2.f4 h.f3 d) (pB (h.f1 = d ∧ HtOk h)) := by
  induction h using Ht.ind with
  | h h ih =>
    intro ht d
    have hte := h.tot_eq
    have hln := len_totH h.f3
    have jT : ∀ d, Ev (fun k => spec_l4Hit.j0 k d true h.f0.f0 h.f0.f1 h.f0.f2 h.f0.f3 h.f0.f4 h.f1 h.f2.f0 h.f2.f1 h.f2.f2 h.f2.f3 h.f2.f4 h.f3) false := fun d => Ev.step (fun k => by rw [spec_l4Hit.j0]) (Ev.pos rfl (Ev.now _))
    refine Ev.step (fun k => by rw [spec_l4Hit.f]) ?_
    by_cases e1 : h.f1 = d
    rotate_left
    · rw [← pB_no (fun k : h.f1 = d ∧ HtOk h => e1 k.1)]
      exact Ev.neg e1 (jT d)
    refine Ev.pos e1 ?_
    by_cases e2 : d < 0
    · rw [← pB_no (fun k : h.f1 = d ∧ HtOk h => by have := k.2.1; omega)]
      exact Ev.pos e2 (jT d)
    refine Ev.neg e2 ?_
    by_cases e3 : d > 3
    · rw [← pB_no (fun k : h.f1 = d ∧ HtOk h => by have := k.2.2.1; omega)]
      exact Ev.pos e3 (jT d)
    refine Ev.neg e3 (Ev.bind (g := fun _ => _) (Ev.some (l3_eq (by omega))) ?_)
    by_cases e4 : IsName h.f0
    rotate_left
    · rw [← pB_no (fun k : h.f1 = d ∧ HtOk h => e4 (htOk_name k.2).1)]
      exact Ev.neg (by rw [pB_iff]; exact e4) (jT d)
    refine Ev.pos (pB_iff.2 e4) ?_
    by_cases e5 : h.f0.f1.toList = [46, 46, 46]
    · rw [← pB_no (fun k : h.f1 = d ∧ HtOk h => (htOk_name k.2).2.1 e5)]
      exact Ev.pos e5 (jT d)
    refine Ev.neg e5 ?_
    by_cases e6 : h.f0.f1.toList = [95]
    · rw [← pB_no (fun k : h.f1 = d ∧ HtOk h => (htOk_name k.2).2.2 e6), show (h.f0.f1.toList == [95]) = true from by simpa using e6]
      exact jT d
    rw [show (h.f0.f1.toList == [95]) = false from by simpa using e6]
    have nm : NmH h.f0 := ⟨e4, e5, e6⟩
    refine Ev.step (fun k => by rw [spec_l4Hit.j0]) (Ev.neg (by simp) ?_)
    by_cases e7 : d = 0
    · refine Ev.pos e7 (Ev.bind (g := fun _ => _) (Ev.some (fv_eq (by omega))) ?_)
      have hz := htOk_0 (e1.trans e7)
      by_cases e8 : FmOk h.f2
      rotate_left
      · rw [← pB_no (fun k : h.f1 = d ∧ HtOk h => e8 (hz.1 k.2).2.1)]
        exact Ev.neg (by rw [pB_iff]; exact e8) (Ev.now _)
      refine Ev.pos (pB_iff.2 e8) ?_
      by_cases e9 : h.f3 = []
      · rw [pB_iff.2 ⟨e1, hz.2 ⟨nm, e8, e9⟩⟩, show ((h.f3.length : Int) == 0) = true from by simp [e9]]
        exact Ev.now _
      · have := List.length_pos_iff.2 e9
        rw [← pB_no (fun k : h.f1 = d ∧ HtOk h => e9 (hz.1 k.2).2.2), show ((h.f3.length : Int) == 0) = false from beq_eq_false_iff_ne.mpr (by omega)]
        exact Ev.now _
    refine Ev.neg e7 ?_
    have hs := htOk_s (h := h) (by omega) (by omega) (by omega)
    have hw : wrap64 (d - 1) = d - 1 := Go.IntWalk.wrap64_in _ ⟨by omega, by omega⟩
    have key := ev_all (L := fun k i => spec_l4Hit.l0 k d ((i : Nat) : Int) h.f0.f0 h.f0.f1 h.f0.f2 h.f0.f3 h.f0.f4 h.f1 h.f2.f0 h.f2.f1 h.f2.f2 h.f2.f3 h.f2.f4 h.f3)
      (fun i => ∀ hi : i < h.f3.length, h.f3[i].f0 = h.f0 ∧ h.f3[i].f1 = d - 1 ∧ HtOk h.f3[i]) h.f3.length (eqB h.f2 zFm && decide (h.f3.length ≤ 400)) false ?_ ?_ ?_
    · by_cases hall : ∀ i, i < h.f3.length → ∀ hi : i < h.f3.length, h.f3[i].f0 = h.f0 ∧ h.f3[i].f1 = d - 1 ∧ HtOk h.f3[i]
      · have hmem : ∀ x, x ∈ h.f3 → x.f0 = h.f0 ∧ x.f1 = h.f1 - 1 ∧ HtOk x := fun x hx => by
          obtain ⟨i, hi, rfl⟩ := List.mem_iff_getElem.1 hx
          rw [e1]
          exact hall i hi hi
        have := key.1 hall
        rw [show pB (h.f1 = d ∧ HtOk h) = (eqB h.f2 zFm && decide (h.f3.length ≤ 400)) from (pB_of (by
          rw [Bool.and_eq_true, eqB_iff, decide_eq_true_iff]
          exact ⟨fun k => ⟨e1, hs.2 ⟨nm, k.1, k.2, hmem⟩⟩, fun k => ⟨(hs.1 k.2).2.1, (hs.1 k.2).2.2.1⟩⟩)).symm]
        exact this
      · rw [← pB_no (fun k : h.f1 = d ∧ HtOk h => hall (fun i hi _ => by have := (hs.1 k.2).2.2.2 _ (List.getElem_mem hi); rw [← e1]; exact this))]
        exact key.2 hall
    · intro i hi hp r hr
      obtain ⟨p1, p2, p3⟩ := hp hi
      have hk := ih h.f3[i] (List.getElem_mem hi) (Nat.le_trans (htTot (List.getElem_mem hi)) ht) (d - 1)
      rw [pB_iff.2 ⟨p2, p3⟩] at hk
      refine Ev.step (fun k => by rw [spec_l4Hit.l0]) (Ev.pos (by omega) (Ev.pos (by omega) ?_))
      rw [rdH hi, fs_eq, hw]
      refine Ev.bind (g := fun _ => _) (Ev.some rfl) (Ev.pos (eqB_iff.2 p1) (Ev.bind hk (Ev.pos rfl ?_)))
      rw [wr1 _ (by omega)]
      exact hr
    · intro i hi hp
      have hk := ih h.f3[i] (List.getElem_mem hi) (Nat.le_trans (htTot (List.getElem_mem hi)) ht) (d - 1)
      refine Ev.step (fun k => by rw [spec_l4Hit.l0]) (Ev.pos (by omega) (Ev.pos (by omega) ?_))
      rw [rdH hi, fs_eq, hw]
      by_cases p1 : h.f3[i].f0 = h.f0
      · refine Ev.bind (g := fun _ => _) (Ev.some rfl) (Ev.pos (eqB_iff.2 p1) (Ev.bind hk (Ev.neg ?_ (Ev.now _))))
        rw [pB_iff]
        exact fun k => hp (fun _ => ⟨p1, k⟩)
      · exact Ev.bind (g := fun _ => _) (Ev.some rfl) (Ev.neg (by rw [eqB_iff]; exact p1) (Ev.now _))
    · refine Ev.step (fun k => by rw [spec_l4Hit.l0]) (Ev.neg (by omega) ?_)
      refine Ev.bind (g := fun _ => _) (Ev.some (fs_zero h.f2)) ?_
      by_cases p1 : h.f2 = zFm
      · refine Ev.pos (eqB_iff.2 p1) ?_
        rw [eqB_iff.2 p1, Bool.true_and, show decide ((h.f3.length : Int) ≤ 400) = decide (h.f3.length ≤ 400) from decide_eq_decide.mpr (by omega)]
        exact Ev.now _
      · rw [← eqB_no p1, Bool.false_and]
        exact Ev.neg (by simp) (Ev.now _)
theorem hv_row {l : List Ht} (hl : totH l ≤ 1048576) {i : Nat} (hi : i < l.length) (h20 : i ≤ 20) : (HitAt l i → ∀ r, Ev (fun k => spec_HitsValid.l0 k l ((i + 1 : Nat) : Int)) r → Ev (fun k => spec_HitsValid.l0 k l (i : Int)) r) ∧ (¬ HitAt l i → Ev (fun k => spec_HitsValid.l0 k l (i : Int)) false) := by
  have hln := len_totH l
  have hk := ev_l4Hit l[i] (Nat.le_trans (totH_mem (List.getElem_mem hi)) hl) l[i].f1
  have pre : ∀ r, (∀ t, pB (l[i].f1 = l[i].f1 ∧ HtOk l[i]) = t → Ev (fun k => if t = true then spec_HitsValid.l1 k l (i : Int) 0 else some false) r) → Ev (fun k => spec_HitsValid.l0 k l (i : Int)) r := by
    intro r hr
    refine Ev.step (fun k => by rw [spec_HitsValid.l0]) (Ev.pos (by omega) ?_)
    rw [show decide ((i : Int) ≤ 20) = true from decide_eq_true (by omega)]
    refine Ev.step (fun k => by rw [spec_HitsValid.j1]) (Ev.pos rfl (Ev.pos (by omega) (Ev.pos (by omega) ?_)))
    rw [rdH hi]
    exact Ev.bind hk (hr _ rfl)
  by_cases ho : HtOk l[i]
  rotate_left
  · refine ⟨fun h => absurd (h hi).1 ho, fun _ => pre _ (fun t e => ?_)⟩
    rw [← e, ← pB_no (fun k => ho k.2)]
    exact Ev.neg (by simp) (Ev.now _)
  have inner : ∀ r, Ev (fun k => spec_HitsValid.l0 k l ((i + 1 : Nat) : Int)) r → ((∀ q, q < i → ∀ hq : q < l.length, ¬ l[q].f0 = l[i].f0) → Ev (fun k => spec_HitsValid.l1 k l (i : Int) ((0 : Nat) : Int)) r) ∧ ((¬ ∀ q, q < i → ∀ hq : q < l.length, ¬ l[q].f0 = l[i].f0) → Ev (fun k => spec_HitsValid.l1 k l (i : Int) ((0 : Nat) : Int)) false) := by
    intro r hr
    refine ev_all (L := fun k q => spec_HitsValid.l1 k l (i : Int) (q : Int)) (fun q => ∀ hq : q < l.length, ¬ l[q].f0 = l[i].f0) i r false ?_ ?_ ?_
    · intro q hq hp r2 hr2
      have hql : q < l.length := by omega
      refine Ev.step (fun k => by rw [spec_HitsValid.l1]) (Ev.pos (by omega) (Ev.pos (by omega) (Ev.pos (by omega) (Ev.pos (by omega) (Ev.pos (by omega) ?_)))))
      rw [rdH hql, rdH hi, fs_eq]
      refine Ev.bind (g := fun _ => _) (Ev.some rfl) (Ev.neg (by rw [eqB_iff]; exact hp hql) ?_)
      rw [wr1 _ (by omega)]
      exact hr2
    · intro q hq hp
      have HP := Lib.hid hp
      clear hp
      have hql : q < l.length := by omega
      refine Ev.step (fun k => by rw [spec_HitsValid.l1]) (Ev.pos (by omega) (Ev.pos (by omega) (Ev.pos (by omega) (Ev.pos (by omega) (Ev.pos (by omega) ?_)))))
      rw [rdH hql, rdH hi, fs_eq]
      refine Ev.bind (g := fun _ => _) (Ev.some rfl) (Ev.pos ?_ (Ev.now _))
      rw [eqB_iff]
      exact Classical.byContradiction fun k => HP.out (fun _ => k)
    · refine Ev.step (fun k => by rw [spec_HitsValid.l1]) (Ev.neg (by omega) ?_)
      rw [wr1 _ (by omega)]
      exact hr
  have post : ∀ r, Ev (fun k => spec_HitsValid.l1 k l (i : Int) ((0 : Nat) : Int)) r → Ev (fun k => spec_HitsValid.l0 k l (i : Int)) r := by
    intro r hr
    refine pre _ (fun t e => ?_)
    rw [← e, pB_iff.2 ⟨rfl, ho⟩]
    exact Ev.pos rfl hr
  have hat : HitAt l i ↔ ∀ q, q < i → ∀ hq : q < l.length, ¬ l[q].f0 = l[i].f0 := by
    constructor
    · intro h q hq hql he
      have h3 := (h hi).2
      rw [List.any_eq_false] at h3
      exact h3 l[q] (List.mem_take_iff_getElem.2 ⟨q, by omega, rfl⟩) (eqB_iff.2 he)
    · intro h hi'
      refine ⟨ho, ?_⟩
      rw [List.any_eq_false]
      intro b hb he
      obtain ⟨j, hj, rfl⟩ := List.mem_take_iff_getElem.1 hb
      exact h j (by omega) (by omega) (eqB_iff.1 he)
  by_cases ha : HitAt l i
  · exact ⟨fun _ r hr => post _ ((inner r hr).1 (hat.1 ha)), fun k => absurd ha k⟩
  · refine ⟨fun k => absurd k ha, fun _ => post _ ?_⟩
    have hn : ¬ ∀ q, q < i → ∀ hq : q < l.length, ¬ l[q].f0 = l[i].f0 := fun k => ha (hat.2 k)
    obtain ⟨q, hq⟩ := Classical.not_forall.1 hn
    obtain ⟨hqi, hq2⟩ := Classical.not_imp.1 hq
    -- the first place with the same name
    have first : ∀ m p, p + m = i → (∃ q, p ≤ q ∧ q < i ∧ ∃ hq : q < l.length, l[q].f0 = l[i].f0) → Ev (fun k => spec_HitsValid.l1 k l (i : Int) (p : Int)) false := by
      intro m
      induction m with
      | zero => rintro p hp ⟨q, h1, h2, _⟩; omega
      | succ m ihm =>
        rintro p hp ⟨q, h1, h2, h3, h4⟩
        have hpl : p < l.length := by omega
        refine Ev.step (fun k => by rw [spec_HitsValid.l1]) (Ev.pos (by omega) (Ev.pos (by omega) (Ev.pos (by omega) (Ev.pos (by omega) (Ev.pos (by omega) ?_)))))
        rw [rdH hpl, rdH hi, fs_eq]
        by_cases e : l[p].f0 = l[i].f0
        · exact Ev.bind (g := fun _ => _) (Ev.some rfl) (Ev.pos (eqB_iff.2 e) (Ev.now _))
        · refine Ev.bind (g := fun _ => _) (Ev.some rfl) (Ev.neg (by rw [eqB_iff]; exact e) ?_)
          rw [wr1 _ (by omega)]
          refine ihm (p + 1) (by omega) ⟨q, ?_, h2, h3, h4⟩
          rcases Nat.lt_or_ge p q with h | h
          · exact h
          · obtain rfl : p = q := by omega
            exact absurd h4 e
    obtain ⟨hql, hq3⟩ := Classical.not_forall.1 hq2
    exact first i 0 (by omega) ⟨q, Nat.zero_le _, hqi, hql, Classical.not_not.1 hq3⟩
theorem ev_hitsValid {l : List Ht} (hl : totH l ≤ 1048576) : Ev (fun k => spec_HitsValid.f k l) (pB (HitsOk l)) := by
  have hln := len_totH l
  unfold spec_HitsValid.f
  obtain ⟨N, hN⟩ : ∃ N, N = if l.length ≤ 21 then l.length else 21 := ⟨_, rfl⟩
  have hN1 : N ≤ l.length := by rw [hN]; split <;> omega
  have hN2 : N ≤ 21 := by rw [hN]; split <;> omega
  have hN3 : N = l.length ∨ N = 21 := by rw [hN]; split <;> omega
  have key := ev_all (L := fun k i => spec_HitsValid.l0 k l ((i : Nat) : Int)) (HitAt l) N (decide (l.length ≤ 20)) false
    (fun i hi hp r hr => (hv_row hl (by omega) (by omega)).1 hp r hr) (fun i hi hp => (hv_row hl (by omega) (by omega)).2 hp) (by
      have e20 : decide ((l.length : Int) ≤ 20) = decide (l.length ≤ 20) := decide_eq_decide.mpr (by omega)
      have jF : Ev (fun k => spec_HitsValid.j1 k l (N : Int) false) (decide (l.length ≤ 20)) := by
        refine Ev.step (fun k => by rw [spec_HitsValid.j1]) (Ev.neg (by simp) ?_)
        rw [e20]
        exact Ev.now _
      refine Ev.step (fun k => by rw [spec_HitsValid.l0]) ?_
      by_cases h : (N : Int) < (l.length : Int)
      · refine Ev.pos h ?_
        rw [show decide ((N : Int) ≤ 20) = false from decide_eq_false (by omega)]
        exact jF
      · exact Ev.neg h jF)
  by_cases hall : ∀ i, i < N → HitAt l i
  · have := key.1 hall
    by_cases h20 : l.length ≤ 20
    · rw [show pB (HitsOk l) = true from pB_iff.2 ⟨h20, fun i hi => hall i (by omega) hi⟩]
      rw [decide_eq_true h20] at this
      exact this
    · rw [← pB_no (fun k : HitsOk l => h20 k.1)]
      rw [decide_eq_false h20] at this
      exact this
  · rw [← pB_no (fun k : HitsOk l => hall (fun i _ => k.2 i))]
    exact key.2 hall
end
/-- The contract of spec.HitsValid. -/
theorem specHitsValid_any (l : List Ht) (A : Option Addr) (c : Nat) (w : World) (hr : kH.C w A l.length l) (hc : l.length ≤ c) (h : totH l ≤ 1048576) :
    Calls Try.prog 33 #[.slice A l.length c] w (Ret w (.bool (pB (HitsOk l)))) := by
  obtain ⟨k, hk⟩ := (ev_hitsValid h).rounds
  exact Q.spec_HitsValid.calls k A c l _ w hr hc hk
end Go.Proofs.Ytlklclebjeeaaaa
end
section
namespace Go.Proofs.Ytlklclebjeeaaaa
open Go.RowKit Go.Proofs.YtlklclebjeeaaaaW.PrintWords Go.Proofs.YtlklclebjeeaaaaW.PrintLast Go.Proofs.YtlklclebjeeaaaaW.PrintMore
set_option linter.unusedVariables false
set_option linter.unusedSimpArgs false
set_option maxHeartbeats 8000000 in
set_option maxRecDepth 100000 in
theorem implHitsValid_any (xs : List Ht) (A : Option Addr) (c : Nat) (w : World) (hr : kH.C w A xs.length xs) (hc : xs.length ≤ c) (ht : totH xs ≤ 1048576) :
    Calls Try.prog 34 #[.slice A xs.length c] w (Ret w (.bool (pB (HitsOk xs)))) := by
  have hmax := hr.2.1
  have HM := Lib.hid (fun x (hx : x ∈ xs) => Nat.le_trans (totH_mem hx) ht)
  clear ht
  go_enter Try.func34, Try.ntmps34
  go_wp2_with fail
  go_loopg [3, 4, 7] xs.length (fun kq v3 v4 v7 w' => ∃ i : Nat, i ≤ xs.length ∧ xs.length - i ≤ kq ∧ v7 = .int .i64 i ∧ Aside0 (∀ j, j < i → HitAt xs j) ∧ Aside0 (Below w.heap.size w w'))
  case atStart => exact ⟨0, Nat.zero_le _, by omega, rfl, ⟨fun j h => absurd h (by omega)⟩, ⟨Below.refl _ _⟩⟩
  case round =>
    obtain ⟨i, hi, hg, rfl, HN, HW⟩ := hrel
    by_cases hlt : i < xs.length
    rotate_left
    · obtain rfl : i = xs.length := by omega
      by_cases h20 : xs.length ≤ 20
      · have t1 : decide ((xs.length : Int) ≤ 20) = true := decide_eq_true (by omega)
        have t2 : decide (xs.length ≤ 20) = true := decide_eq_true h20
        have H20 := Lib.hid h20
        clear h20
        go_wp2_with fail
        go_ret
        exact ⟨ret_b (pB_yes ⟨H20.out, fun j h => HN.out j h h⟩), HW.out⟩
      · have t1 : decide ((xs.length : Int) ≤ 20) = false := decide_eq_false (by omega)
        have t2 : decide (xs.length ≤ 20) = false := decide_eq_false h20
        have H20 := Lib.hid h20
        clear h20
        go_wp2_with fail
        go_ret
        exact ⟨ret_b (pB_no (fun h => H20.out h.1)), HW.out⟩
    obtain ⟨ad, X3, Xc3, X4, Xc4, X9, Xc9, X10, Xc10, X11, Xc11, e, hcl, hk⟩ := ht_at (Kd.C_below hr HW.out) i hlt
    subst e
    obtain ⟨g0, g1, g2, g3, g4, g5, g6, g7, g8, g9, g10, g11⟩ := ht_cells_at hcl
    clear hcl
    have hn := below_new wr (.cells #[.int .i64 xs[i].f0.f0, .string xs[i].f0.f1, .int .i64 xs[i].f0.f2, .slice X3 xs[i].f0.f3.length Xc3, .slice X4 xs[i].f0.f4.length Xc4, .int .i64 xs[i].f1, .int .i64 xs[i].f2.f0, .string xs[i].f2.f1, .int .i64 xs[i].f2.f2, .slice X9 xs[i].f2.f3.length Xc9, .slice X10 xs[i].f2.f4.length Xc10, .slice X11 xs[i].f3.length Xc11] 80)
    have HBx := Lib.hid (blk_new wr (.cells #[.int .i64 xs[i].f0.f0, .string xs[i].f0.f1, .int .i64 xs[i].f0.f2, .slice X3 xs[i].f0.f3.length Xc3, .slice X4 xs[i].f0.f4.length Xc4, .int .i64 xs[i].f1, .int .i64 xs[i].f2.f0, .string xs[i].f2.f1, .int .i64 xs[i].f2.f2, .slice X9 xs[i].f2.f3.length Xc9, .slice X10 xs[i].f2.f4.length Xc10, .slice X11 xs[i].f3.length Xc11] 80))
    have HK := Lib.hid (fun W hb => hitOk_any xs[i] X3 Xc3 X4 Xc4 X9 Xc9 X10 Xc10 X11 Xc11 W (hk.below (below_step hn hb)) (HM.out _ (List.getElem_mem hlt)))
    have hF := fun W hb => hitAt_any (xs.take i) (some ad) c xs[i].f0 X3 Xc3 X4 Xc4 W (Kd.C_take (Kd.C_below hr (below_step HW.out (below_step hn hb))) (by omega)) (by rw [List.length_take]; omega) ((hk.below (below_step hn hb)).n)
    have hA := fidx_any (fun x => eqB x.f0 xs[i].f0) (xs.take i)
    rw [List.length_take, Nat.min_eq_left hi] at hF
    generalize fidx (fun x => eqB x.f0 xs[i].f0) (xs.take i) = r at hF hA
    have HF := Lib.hid hF
    have HS0 : Hid (∀ W : World, Below (wr.alloc (.cells #[.int .i64 xs[i].f0.f0, .string xs[i].f0.f1, .int .i64 xs[i].f0.f2, .slice X3 xs[i].f0.f3.length Xc3, .slice X4 xs[i].f0.f4.length Xc4, .int .i64 xs[i].f1, .int .i64 xs[i].f2.f0, .string xs[i].f2.f1, .int .i64 xs[i].f2.f2, .slice X9 xs[i].f2.f3.length Xc9, .slice X10 xs[i].f2.f4.length Xc10, .slice X11 xs[i].f3.length Xc11] 80)).heap.size (wr.alloc (.cells #[.int .i64 xs[i].f0.f0, .string xs[i].f0.f1, .int .i64 xs[i].f0.f2, .slice X3 xs[i].f0.f3.length Xc3, .slice X4 xs[i].f0.f4.length Xc4, .int .i64 xs[i].f1, .int .i64 xs[i].f2.f0, .string xs[i].f2.f1, .int .i64 xs[i].f2.f2, .slice X9 xs[i].f2.f3.length Xc9, .slice X10 xs[i].f2.f4.length Xc10, .slice X11 xs[i].f3.length Xc11] 80)) W → (fun W : World => W.cell? ⟨wr.heap.size, 0, none⟩ = some (.int .i64 xs[i].f0.f0) ∧ W.cell? ⟨wr.heap.size, 1, none⟩ = some (.string xs[i].f0.f1) ∧ W.cell? ⟨wr.heap.size, 2, none⟩ = some (.int .i64 xs[i].f0.f2) ∧ W.cell? ⟨wr.heap.size, 3, none⟩ = some (.slice X3 xs[i].f0.f3.length Xc3) ∧ W.cell? ⟨wr.heap.size, 4, none⟩ = some (.slice X4 xs[i].f0.f4.length Xc4) ∧ W.cell? ⟨wr.heap.size, 5, none⟩ = some (.int .i64 xs[i].f1) ∧ W.cell? ⟨wr.heap.size, 6, none⟩ = some (.int .i64 xs[i].f2.f0) ∧ W.cell? ⟨wr.heap.size, 7, none⟩ = some (.string xs[i].f2.f1) ∧ W.cell? ⟨wr.heap.size, 8, none⟩ = some (.int .i64 xs[i].f2.f2) ∧ W.cell? ⟨wr.heap.size, 9, none⟩ = some (.slice X9 xs[i].f2.f3.length Xc9) ∧ W.cell? ⟨wr.heap.size, 10, none⟩ = some (.slice X10 xs[i].f2.f4.length Xc10) ∧ W.cell? ⟨wr.heap.size, 11, none⟩ = some (.slice X11 xs[i].f3.length Xc11)) W) := Lib.hid (fun W hb => ht_cells (blk_below HBx.out hb))
    have HD := Lib.hid (below_drew (Below.refl (wr.alloc (.cells #[.int .i64 xs[i].f0.f0, .string xs[i].f0.f1, .int .i64 xs[i].f0.f2, .slice X3 xs[i].f0.f3.length Xc3, .slice X4 xs[i].f0.f4.length Xc4, .int .i64 xs[i].f1, .int .i64 xs[i].f2.f0, .string xs[i].f2.f1, .int .i64 xs[i].f2.f2, .slice X9 xs[i].f2.f3.length Xc9, .slice X10 xs[i].f2.f4.length Xc10, .slice X11 xs[i].f3.length Xc11] 80)).heap.size (wr.alloc (.cells #[.int .i64 xs[i].f0.f0, .string xs[i].f0.f1, .int .i64 xs[i].f0.f2, .slice X3 xs[i].f0.f3.length Xc3, .slice X4 xs[i].f0.f4.length Xc4, .int .i64 xs[i].f1, .int .i64 xs[i].f2.f0, .string xs[i].f2.f1, .int .i64 xs[i].f2.f2, .slice X9 xs[i].f2.f3.length Xc9, .slice X10 xs[i].f2.f4.length Xc10, .slice X11 xs[i].f3.length Xc11] 80))))
    clear hk hn hF HBx
    have p1 : (0 : Int) ≤ (i : Int) := by omega
    have p2 : (i : Int) < (xs.length : Int) := by omega
    have p3 : (i : Int) ≤ (c : Int) := by omega
    have p4 : i ≤ c := by omega
    have q1 := eq_true p1
    have q3 := eq_true p3
    have q4 := eq_true p4
    by_cases hok : HtOk xs[i]
    rotate_left
    · have HT : Hid (pB (HtOk xs[i]) = false) := Lib.hid (pB_no hok).symm
      have NE := Lib.hid hok
      clear hok hA
      go_wp2_with fail
      clear g0 g1 g2 g3 g4 g5 g6 g7 g8 g9 g10 g11
      refine start_ (n := 12) (S := (fun W : World => W.cell? ⟨wr.heap.size, 0, none⟩ = some (.int .i64 xs[i].f0.f0) ∧ W.cell? ⟨wr.heap.size, 1, none⟩ = some (.string xs[i].f0.f1) ∧ W.cell? ⟨wr.heap.size, 2, none⟩ = some (.int .i64 xs[i].f0.f2) ∧ W.cell? ⟨wr.heap.size, 3, none⟩ = some (.slice X3 xs[i].f0.f3.length Xc3) ∧ W.cell? ⟨wr.heap.size, 4, none⟩ = some (.slice X4 xs[i].f0.f4.length Xc4) ∧ W.cell? ⟨wr.heap.size, 5, none⟩ = some (.int .i64 xs[i].f1) ∧ W.cell? ⟨wr.heap.size, 6, none⟩ = some (.int .i64 xs[i].f2.f0) ∧ W.cell? ⟨wr.heap.size, 7, none⟩ = some (.string xs[i].f2.f1) ∧ W.cell? ⟨wr.heap.size, 8, none⟩ = some (.int .i64 xs[i].f2.f2) ∧ W.cell? ⟨wr.heap.size, 9, none⟩ = some (.slice X9 xs[i].f2.f3.length Xc9) ∧ W.cell? ⟨wr.heap.size, 10, none⟩ = some (.slice X10 xs[i].f2.f4.length Xc10) ∧ W.cell? ⟨wr.heap.size, 11, none⟩ = some (.slice X11 xs[i].f3.length Xc11))) (ds := []) #[false, false, false, false, false, false, false, false, false, false, false, false] (by kernel_rfl) rfl rfl (HS0.out _ HD.out) (fun hHeld => ?_)
      generalize World.drew _ = wd at HD hHeld  ⊢
      refine take_ (i := 0) (N := some 12) (v := ?_) (a' := ?_) #[true, false, false, false, false, false, false, false, false, false, false, false] rfl rfl (by kernel_rfl) (fun _ _ _ h => h) (Or.inl ⟨by rfl, ?_⟩) hHeld ?_ ?_
      rotate_left
      · rintro w' ⟨s0, s1, s2, s3, s4, s5, s6, s7, s8, s9, s10, s11⟩
        go_simp
        with_reducible rfl
      rotate_left
      · simp only [Act.put, List.setIfInBounds_toArray, List.set_cons_zero, List.set_cons_succ, i64_w, i32_w]
        rfl
      refine one_ (i := 1) (N := some 13) #[true, true, false, false, false, false, false, false, false, false, false, false] rfl rfl (by kernel_rfl) (by decide) (fun K hK => ?_)
      refine goes_ Try.func69 (by kernel_rfl) rfl #[.agg #[.int .i64 xs[i].f0.f0, .string xs[i].f0.f1, .int .i64 xs[i].f0.f2, .slice X3 xs[i].f0.f3.length Xc3, .slice X4 xs[i].f0.f4.length Xc4, .int .i64 xs[i].f1, .int .i64 xs[i].f2.f0, .string xs[i].f2.f1, .int .i64 xs[i].f2.f2, .slice X9 xs[i].f2.f3.length Xc9, .slice X10 xs[i].f2.f4.length Xc10, .slice X11 xs[i].f3.length Xc11]] (by rfl) rfl rfl (by (try simp only [List.map_toArray, List.map_cons, List.map_nil]); first | done | rfl) ?_
      refine (HK.out _ HD.out).mono ?_
      rintro e w1 ⟨rfl, hb1⟩
      replace HD := Lib.hid (below_step HD.out hb1)
      clear hb1
      rw [HT.out]
      refine ⟨_, rfl, ?_⟩
      refine hK.out _ _ (HS0.out _ HD.out) (fun hHeld => ?_)
      clear hK K
      refine norm_ (a' := ?_) ?_ ?_
      rotate_left
      · show Act.put _ (some 13) _ = _
        simp only [Act.put, List.setIfInBounds_toArray, List.set_cons_zero, List.set_cons_succ, i64_w, i32_w]
        rfl
      refine pure_ (i := 2) (N := some 14) (v := ?_) (a' := ?_) #[true, true, true, false, false, false, false, false, false, false, false, false] rfl rfl (by kernel_rfl) (fun _ _ _ h => h) (Or.inl ⟨by rfl, ?_⟩) ?_ ?_
      rotate_left
      · intro w'
        go_simp
        with_reducible rfl
      rotate_left
      · simp only [Act.put, List.setIfInBounds_toArray, List.set_cons_zero, List.set_cons_succ, i64_w, i32_w]
        rfl
      refine pure_ (i := 3) (N := some 15) (v := ?_) (a' := ?_) #[true, true, true, true, false, false, false, false, false, false, false, false] rfl rfl (by kernel_rfl) (fun _ _ _ h => h) (Or.inl ⟨by rfl, ?_⟩) ?_ ?_
      rotate_left
      · intro w'
        go_simp
        with_reducible rfl
      rotate_left
      · simp only [Act.put, List.setIfInBounds_toArray, List.set_cons_zero, List.set_cons_succ, i64_w, i32_w]
        rfl
      refine pure_ (i := 4) (N := some 16) (v := undef) (a' := ?_) #[true, true, true, true, true, false, false, false, false, false, false, false] rfl rfl (by kernel_rfl) (fun _ _ _ h => h) (Or.inr ⟨by rfl, rfl⟩) ?_ ?_
      rotate_left
      · simp only [Act.put, List.setIfInBounds_toArray, List.set_cons_zero, List.set_cons_succ, i64_w, i32_w]
        rfl
      refine pure_ (i := 5) (N := some 17) (v := undef) (a' := ?_) #[true, true, true, true, true, true, false, false, false, false, false, false] rfl rfl (by kernel_rfl) (fun _ _ _ h => h) (Or.inr ⟨by rfl, rfl⟩) ?_ ?_
      rotate_left
      · simp only [Act.put, List.setIfInBounds_toArray, List.set_cons_zero, List.set_cons_succ, i64_w, i32_w]
        rfl
      refine pure_ (i := 6) (N := some 18) (v := undef) (a' := ?_) #[true, true, true, true, true, true, true, false, false, false, false, false] rfl rfl (by kernel_rfl) (fun _ _ _ h => h) (Or.inr ⟨by rfl, rfl⟩) ?_ ?_
      rotate_left
      · simp only [Act.put, List.setIfInBounds_toArray, List.set_cons_zero, List.set_cons_succ, i64_w, i32_w]
        rfl
      refine pure_ (i := 7) (N := some 19) (v := undef) (a' := ?_) #[true, true, true, true, true, true, true, true, false, false, false, false] rfl rfl (by kernel_rfl) (fun _ _ _ h => h) (Or.inr ⟨by rfl, rfl⟩) ?_ ?_
      rotate_left
      · simp only [Act.put, List.setIfInBounds_toArray, List.set_cons_zero, List.set_cons_succ, i64_w, i32_w]
        rfl
      refine pure_ (i := 8) (N := some 20) (v := undef) (a' := ?_) #[true, true, true, true, true, true, true, true, true, false, false, false] rfl rfl (by kernel_rfl) (fun _ _ _ h => h) (Or.inr ⟨by rfl, rfl⟩) ?_ ?_
      rotate_left
      · simp only [Act.put, List.setIfInBounds_toArray, List.set_cons_zero, List.set_cons_succ, i64_w, i32_w]
        rfl
      refine one_ (i := 9) (N := some 21) #[true, true, true, true, true, true, true, true, true, true, false, false] rfl rfl (by kernel_rfl) (by decide) (fun K hK => ?_)
      refine off_ (by rfl) ?_
      refine hK.out _ _ (HS0.out _ HD.out) (fun hHeld => ?_)
      clear hK K
      refine norm_ (a' := ?_) ?_ ?_
      rotate_left
      · show Act.put _ (some 21) _ = _
        simp only [Act.put, List.setIfInBounds_toArray, List.set_cons_zero, List.set_cons_succ, i64_w, i32_w]
        rfl
      refine pure_ (i := 10) (N := some 22) (v := undef) (a' := ?_) #[true, true, true, true, true, true, true, true, true, true, true, false] rfl rfl (by kernel_rfl) (fun _ _ _ h => h) (Or.inr ⟨by rfl, rfl⟩) ?_ ?_
      rotate_left
      · simp only [Act.put, List.setIfInBounds_toArray, List.set_cons_zero, List.set_cons_succ, i64_w, i32_w]
        rfl
      refine pure_ (i := 11) (N := some 23) (v := ?_) (a' := ?_) #[true, true, true, true, true, true, true, true, true, true, true, true] rfl rfl (by kernel_rfl) (fun _ _ _ h => h) (Or.inl ⟨by rfl, ?_⟩) ?_ ?_
      rotate_left
      · intro w'
        go_simp
        with_reducible rfl
      rotate_left
      · simp only [Act.put, List.setIfInBounds_toArray, List.set_cons_zero, List.set_cons_succ, i64_w, i32_w]
        rfl
      refine done_ (by kernel_rfl) ?_
      have HB := Lib.hid (below_step HW.out (below_step (below_new _ _) HD.out))
      clear HD HS0
      go_wp2_with fail
      go_ret
      exact ⟨ret_b (pB_no (fun h => NE.out (h.2 i hlt).1)), HB.out⟩
    have HT : Hid (pB (HtOk xs[i]) = true) := Lib.hid (pB_yes hok).symm
    have OK := Lib.hid hok
    clear hok
    go_wp2_with fail
    clear g0 g1 g2 g3 g4 g5 g6 g7 g8 g9 g10 g11
    refine start_ (n := 12) (S := (fun W : World => W.cell? ⟨wr.heap.size, 0, none⟩ = some (.int .i64 xs[i].f0.f0) ∧ W.cell? ⟨wr.heap.size, 1, none⟩ = some (.string xs[i].f0.f1) ∧ W.cell? ⟨wr.heap.size, 2, none⟩ = some (.int .i64 xs[i].f0.f2) ∧ W.cell? ⟨wr.heap.size, 3, none⟩ = some (.slice X3 xs[i].f0.f3.length Xc3) ∧ W.cell? ⟨wr.heap.size, 4, none⟩ = some (.slice X4 xs[i].f0.f4.length Xc4) ∧ W.cell? ⟨wr.heap.size, 5, none⟩ = some (.int .i64 xs[i].f1) ∧ W.cell? ⟨wr.heap.size, 6, none⟩ = some (.int .i64 xs[i].f2.f0) ∧ W.cell? ⟨wr.heap.size, 7, none⟩ = some (.string xs[i].f2.f1) ∧ W.cell? ⟨wr.heap.size, 8, none⟩ = some (.int .i64 xs[i].f2.f2) ∧ W.cell? ⟨wr.heap.size, 9, none⟩ = some (.slice X9 xs[i].f2.f3.length Xc9) ∧ W.cell? ⟨wr.heap.size, 10, none⟩ = some (.slice X10 xs[i].f2.f4.length Xc10) ∧ W.cell? ⟨wr.heap.size, 11, none⟩ = some (.slice X11 xs[i].f3.length Xc11))) (ds := []) #[false, false, false, false, false, false, false, false, false, false, false, false] (by kernel_rfl) rfl rfl (HS0.out _ HD.out) (fun hHeld => ?_)
    generalize World.drew _ = wd at HD hHeld  ⊢
    refine take_ (i := 0) (N := some 12) (v := ?_) (a' := ?_) #[true, false, false, false, false, false, false, false, false, false, false, false] rfl rfl (by kernel_rfl) (fun _ _ _ h => h) (Or.inl ⟨by rfl, ?_⟩) hHeld ?_ ?_
    rotate_left
    · rintro w' ⟨s0, s1, s2, s3, s4, s5, s6, s7, s8, s9, s10, s11⟩
      go_simp
      with_reducible rfl
    rotate_left
    · simp only [Act.put, List.setIfInBounds_toArray, List.set_cons_zero, List.set_cons_succ, i64_w, i32_w]
      rfl
    refine one_ (i := 1) (N := some 13) #[true, true, false, false, false, false, false, false, false, false, false, false] rfl rfl (by kernel_rfl) (by decide) (fun K hK => ?_)
    refine goes_ Try.func69 (by kernel_rfl) rfl #[.agg #[.int .i64 xs[i].f0.f0, .string xs[i].f0.f1, .int .i64 xs[i].f0.f2, .slice X3 xs[i].f0.f3.length Xc3, .slice X4 xs[i].f0.f4.length Xc4, .int .i64 xs[i].f1, .int .i64 xs[i].f2.f0, .string xs[i].f2.f1, .int .i64 xs[i].f2.f2, .slice X9 xs[i].f2.f3.length Xc9, .slice X10 xs[i].f2.f4.length Xc10, .slice X11 xs[i].f3.length Xc11]] (by rfl) rfl rfl (by (try simp only [List.map_toArray, List.map_cons, List.map_nil]); first | done | rfl) ?_
    refine (HK.out _ HD.out).mono ?_
    rintro e w1 ⟨rfl, hb1⟩
    replace HD := Lib.hid (below_step HD.out hb1)
    clear hb1
    rw [HT.out]
    refine ⟨_, rfl, ?_⟩
    refine hK.out _ _ (HS0.out _ HD.out) (fun hHeld => ?_)
    clear hK K
    refine norm_ (a' := ?_) ?_ ?_
    rotate_left
    · show Act.put _ (some 13) _ = _
      simp only [Act.put, List.setIfInBounds_toArray, List.set_cons_zero, List.set_cons_succ, i64_w, i32_w]
      rfl
    refine pure_ (i := 2) (N := some 14) (v := ?_) (a' := ?_) #[true, true, true, false, false, false, false, false, false, false, false, false] rfl rfl (by kernel_rfl) (fun _ _ _ h => h) (Or.inl ⟨by rfl, ?_⟩) ?_ ?_
    rotate_left
    · intro w'
      go_simp
      with_reducible rfl
    rotate_left
    · simp only [Act.put, List.setIfInBounds_toArray, List.set_cons_zero, List.set_cons_succ, i64_w, i32_w]
      rfl
    refine pure_ (i := 3) (N := some 15) (v := ?_) (a' := ?_) #[true, true, true, true, false, false, false, false, false, false, false, false] rfl rfl (by kernel_rfl) (fun _ _ _ h => h) (Or.inl ⟨by rfl, ?_⟩) ?_ ?_
    rotate_left
    · intro w'
      go_simp
      with_reducible rfl
    rotate_left
    · simp only [Act.put, List.setIfInBounds_toArray, List.set_cons_zero, List.set_cons_succ, i64_w, i32_w]
      rfl
    refine pure_ (i := 4) (N := some 16) (v := ?_) (a' := ?_) #[true, true, true, true, true, false, false, false, false, false, false, false] rfl rfl (by kernel_rfl) (fun _ _ _ h => h) (Or.inl ⟨by rfl, ?_⟩) ?_ ?_
    rotate_left
    · intro w'
      go_simp
      with_reducible rfl
    rotate_left
    · simp only [Act.put, List.setIfInBounds_toArray, List.set_cons_zero, List.set_cons_succ, i64_w, i32_w]
      rfl
    refine pure_ (i := 5) (N := some 17) (v := ?_) (a' := ?_) #[true, true, true, true, true, true, false, false, false, false, false, false] rfl rfl (by kernel_rfl) (fun _ _ _ h => h) (Or.inl ⟨by rfl, ?_⟩) ?_ ?_
    rotate_left
    · intro w'
      go_simp
      with_reducible rfl
    rotate_left
    · simp only [Act.put, List.setIfInBounds_toArray, List.set_cons_zero, List.set_cons_succ, i64_w, i32_w]
      rfl
    refine pure_ (i := 6) (N := some 18) (v := ?_) (a' := ?_) #[true, true, true, true, true, true, true, false, false, false, false, false] rfl rfl (by kernel_rfl) (fun _ _ _ h => h) (Or.inl ⟨by rfl, ?_⟩) ?_ ?_
    rotate_left
    · intro w'
      go_simp
      with_reducible rfl
    rotate_left
    · simp only [Act.put, List.setIfInBounds_toArray, List.set_cons_zero, List.set_cons_succ, i64_w, i32_w]
      rfl
    refine pure_ (i := 7) (N := some 19) (v := ?_) (a' := ?_) #[true, true, true, true, true, true, true, true, false, false, false, false] rfl rfl (by kernel_rfl) (fun _ _ _ h => h) (Or.inl ⟨by rfl, ?_⟩) ?_ ?_
    rotate_left
    · intro w'
      go_simp
      with_reducible rfl
    rotate_left
    · simp only [Act.put, List.setIfInBounds_toArray, List.set_cons_zero, List.set_cons_succ, i64_w, i32_w]
      rfl
    refine take_ (i := 8) (N := some 20) (v := ?_) (a' := ?_) #[true, true, true, true, true, true, true, true, true, false, false, false] rfl rfl (by kernel_rfl) (fun _ _ _ h => h) (Or.inl ⟨by rfl, ?_⟩) hHeld ?_ ?_
    rotate_left
    · rintro w' ⟨s0, s1, s2, s3, s4, s5, s6, s7, s8, s9, s10, s11⟩
      go_simp
      with_reducible rfl
    rotate_left
    · simp only [Act.put, List.setIfInBounds_toArray, List.set_cons_zero, List.set_cons_succ, i64_w, i32_w]
      rfl
    refine one_ (i := 9) (N := some 21) #[true, true, true, true, true, true, true, true, true, true, false, false] rfl rfl (by kernel_rfl) (by decide) (fun K hK => ?_)
    refine goes_ Try.func70 (by kernel_rfl) rfl #[.slice (some ad) (i : Nat) c, .agg #[.int .i64 xs[i].f0.f0, .string xs[i].f0.f1, .int .i64 xs[i].f0.f2, .slice X3 xs[i].f0.f3.length Xc3, .slice X4 xs[i].f0.f4.length Xc4]] (by rfl) rfl rfl (by (try simp only [List.map_toArray, List.map_cons, List.map_nil]); first | done | rfl) ?_
    refine (HF.out _ HD.out).mono ?_
    rintro e w1 ⟨rfl, hb1⟩
    replace HD := Lib.hid (below_step HD.out hb1)
    clear hb1
    refine ⟨_, rfl, ?_⟩
    refine hK.out _ _ (HS0.out _ HD.out) (fun hHeld => ?_)
    clear hK K
    refine norm_ (a' := ?_) ?_ ?_
    rotate_left
    · show Act.put _ (some 21) _ = _
      simp only [Act.put, List.setIfInBounds_toArray, List.set_cons_zero, List.set_cons_succ, i64_w, i32_w]
      rfl
    refine pure_ (i := 10) (N := some 22) (v := ?_) (a' := ?_) #[true, true, true, true, true, true, true, true, true, true, true, false] rfl rfl (by kernel_rfl) (fun _ _ _ h => h) (Or.inl ⟨by rfl, ?_⟩) ?_ ?_
    rotate_left
    · intro w'
      go_simp
      with_reducible rfl
    rotate_left
    · simp only [Act.put, List.setIfInBounds_toArray, List.set_cons_zero, List.set_cons_succ, i64_w, i32_w]
      rfl
    refine pure_ (i := 11) (N := some 23) (v := ?_) (a' := ?_) #[true, true, true, true, true, true, true, true, true, true, true, true] rfl rfl (by kernel_rfl) (fun _ _ _ h => h) (Or.inl ⟨by rfl, ?_⟩) ?_ ?_
    rotate_left
    · intro w'
      go_simp
      with_reducible rfl
    rotate_left
    · simp only [Act.put, List.setIfInBounds_toArray, List.set_cons_zero, List.set_cons_succ, i64_w, i32_w]
      rfl
    refine done_ (by kernel_rfl) ?_
    have HB := Lib.hid (below_step HW.out (below_step (below_new _ _) HD.out))
    clear HD HS0
    cases hz : (xs.take i).any (fun x => eqB x.f0 xs[i].f0) with
    | true =>
      rw [hz] at hA
      have HZ := Lib.hid hz
      clear hz
      go_wp2_with fail
      go_ret
      exact ⟨ret_b (pB_no (fun h => by have := (h.2 i hlt).2; rw [HZ.out] at this; cases this)), HB.out⟩
    | false =>
      rw [hz] at hA
      have HZ := Lib.hid hz
      clear hz
      go_wp2_with fail
      go_roundg (xs.length - (i + 1))
      case measure => omega
      case rel =>
        refine ⟨i + 1, by omega, Nat.le_refl _, by go_num, ⟨fun j hji => ?_⟩, ⟨HB.out⟩⟩
        rcases Nat.lt_or_ge j i with h | h
        · exact HN.out j h
        · obtain rfl : j = i := by omega
          exact fun _ => ⟨OK.out, HZ.out⟩
end Go.Proofs.Ytlklclebjeeaaaa
end
section
namespace Go.Proofs.Ytlklclebjeeaaaa
open Go.RowKit Go.Proofs.YtlklclebjeeaaaaW.PrintWords Go.Proofs.YtlklclebjeeaaaaW.PrintLast Go.Proofs.YtlklclebjeeaaaaW.PrintMore
open Go.ChangeShapes Go.WideShapes Go.ChangeAt Go.Deep
set_option linter.unusedVariables false

section
variable {H : Type} {enc : TypeId × Value → H} {W : World} {held : Bool}
theorem trod_ints (fuel : Nat) (cs : List Value) (y : DataW H × List MemPlace) (h : DataW.trod enc Try.prog W 0 (fun _ => true) held fuel 23 cs = some y) :
    ∃ (A : Option Addr) (c : Nat) (zs : List Int), cs = [.slice A zs.length c] ∧ zs.length ≤ c ∧ kI.C W A zs.length zs := by
  rcases open_slice1 Try.underlying23 (by kernel_rfl) h with ⟨rfl, _⟩ | ⟨a, len, cap, m, n, V, D, Pl, rfl, _, hl, hm, hmm, rfl, hx⟩
  · exact ⟨none, 0, [], rfl, Nat.le_refl _, Kd.C_nil _ _⟩
  · obtain ⟨f, hf⟩ := choose_lt (α := Int) (n := len) (p := fun i z => W.cell? (a.add i) = some (.int .i64 z)) (fun i hi => by
      obtain ⟨h1, h2⟩ := hx i (by rw [hmm]; simp; omega)
      obtain ⟨z, e, _⟩ := DataW.trod_int Try.underlying3 h2
      rw [List.cons.injEq] at e
      exact ⟨z, by rw [h1, e.1]⟩)
    have hlen : ((List.range len).map f).length = len := by simp
    refine ⟨some a, cap, (List.range len).map f, by rw [hlen], by omega, by rw [hlen], by rw [hlen]; unfold maxLen at hm; omega, fun _ => ⟨a, rfl, fun j p hj => ⟨[.int .i64 p], rfl, rfl, fun i u hu => ?_⟩⟩⟩
    have hjl : j < len := by have := (List.getElem?_eq_some_iff.1 hj).1; omega
    have hp : f j = p := by simpa [hjl] using hj
    cases i with
    | zero =>
      have : Value.int .i64 p = u := by simpa using hu
      subst this
      rw [← hp]
      show W.cell? (a.add (j * 1 + 0)) = _
      simpa using hf j hjl
    | succ i => simp at hu
instance : Inhabited Fm := ⟨zFm⟩
theorem len5 {α : Type} {l : List α} (h : l.length = 5) : ∃ a b c d e, l = [a, b, c, d, e] := by
  rcases l with _ | ⟨a, _ | ⟨b, _ | ⟨c, _ | ⟨d, _ | ⟨e, _ | ⟨f, l⟩⟩⟩⟩⟩⟩ <;> simp at h
  exact ⟨a, b, c, d, e, rfl⟩
theorem trod_forms_of (fuel : Nat) (ih : ∀ m, m < fuel → ∀ (cs : List Value) (y : DataW H × List MemPlace), DataW.trod enc Try.prog W 0 (fun _ => true) held m 26 cs = some y → ∃ x, kF.K W x cs ∧ NmSmall x)
    (cs : List Value) (y : DataW H × List MemPlace) (h : DataW.trod enc Try.prog W 0 (fun _ => true) held fuel 24 cs = some y) :
    ∃ (A : Option Addr) (c : Nat) (ks : List Fm), cs = [.slice A ks.length c] ∧ ks.length ≤ c ∧ kF.C W A ks.length ks ∧ ∀ k, k ∈ ks → NmSmall k := by
  rcases DataW.trod_slice Try.underlying24 h with ⟨rfl, _⟩ | ⟨a, len, cap, elems, rest, n, rfl, rfl, rfl, hb, hl, hm, hlen, hel, _, _⟩
  · exact ⟨none, 0, [], rfl, Nat.le_refl _, Kd.C_nil _ _, fun k hk => by cases hk⟩
  · have h5 : Try.prog.cellsOf 26 = 5 := by kernel_rfl
    rw [h5] at hel
    obtain ⟨f, hf⟩ := choose_lt (α := Fm) (n := len) (p := fun i x => (∃ cs', W.cells? 0 (a.add (i * 5)) 5 = some cs' ∧ kF.K W x cs') ∧ NmSmall x) (fun i hi => by
      have h1 := hel i hi
      rw [List.getElem?_eq_getElem (by omega)] at h1
      obtain ⟨cs', h2, h3⟩ := Option.bind_eq_some_iff.1 h1
      obtain ⟨x, hK, hN⟩ := ih n (Nat.lt_succ_self n) cs' _ h3
      exact ⟨x, ⟨cs', h2, hK⟩, hN⟩)
    have hlen2 : ((List.range len).map f).length = len := by simp
    refine ⟨some a, cap, (List.range len).map f, by rw [hlen2], by omega, ⟨by rw [hlen2], by rw [hlen2]; unfold maxLen at hm; omega, fun _ => ⟨a, rfl, fun j p hj => ?_⟩⟩, fun k hk => ?_⟩
    · have hjl : j < len := by have := (List.getElem?_eq_some_iff.1 hj).1; omega
      have hp : f j = p := by simpa [hjl] using hj
      obtain ⟨⟨cs', h2, hK⟩, _⟩ := hf j hjl
      rw [hp] at hK
      obtain ⟨_, h3, h4⟩ := World.cells?_some h2
      refine ⟨cs', h3, hK, fun i u hu => ?_⟩
      have hi : i < 5 := by have := (List.getElem?_eq_some_iff.1 hu).1; omega
      have := h4 i hi
      rw [Deep.add_add, hu] at this
      exact this
    · obtain ⟨j, hj, rfl⟩ := List.mem_map.1 hk
      exact (hf j (List.mem_range.1 hj)).2
set_option maxRecDepth 100000 in
theorem trod_form : ∀ (fuel : Nat) (cs : List Value) (y : DataW H × List MemPlace), DataW.trod enc Try.prog W 0 (fun _ => true) held fuel 26 cs = some y → ∃ x, kF.K W x cs ∧ NmSmall x := by
  intro fuel
  induction fuel using Nat.strongRecOn with
  | _ fuel ih =>
    intro cs y h
    obtain ⟨xs, n, hfu, rfl, hl, hlen, hf⟩ := DataW.trod_struct Try.underlying26 h
    rw [show Try.prog.cellsOf 26 = 5 from by kernel_rfl] at hl
    obtain ⟨c0, c1, c2, c3, c4, rfl⟩ := len5 hl
    obtain ⟨y0, y1, y2, y3, y4, rfl⟩ := len5 (show xs.length = 5 from hlen)
    have f0 := hf 0 _ rfl
    have f1 := hf 1 _ rfl
    have f2 := hf 2 _ rfl
    have f3 := hf 3 _ rfl
    have f4 := hf 4 _ rfl
    simp only [List.getElem_toArray, List.getElem_cons_zero, List.getElem_cons_succ] at f0 f1 f2 f3 f4
    simp only [show Try.prog.cellsOf 3 = 1 from by kernel_rfl, show Try.prog.cellsOf 9 = 1 from by kernel_rfl, show Try.prog.cellsOf 23 = 1 from by kernel_rfl, show Try.prog.cellsOf 24 = 1 from by kernel_rfl, List.drop_succ_cons, List.drop_zero, List.take_succ_cons, List.take_zero, List.getElem?_cons_zero, List.getElem?_cons_succ] at f0 f1 f2 f3 f4
    obtain ⟨z0, e0, _⟩ := DataW.trod_int Try.underlying3 f0
    obtain ⟨s1, e1, _, hs1⟩ := DataW.trod_string Try.underlying9 f1
    obtain ⟨z2, e2, _⟩ := DataW.trod_int Try.underlying3 f2
    obtain ⟨A3, d3, zs, e3, l3, r3⟩ := trod_ints n _ _ f3
    obtain ⟨A4, d4, ks, e4, l4, r4, hN⟩ := trod_forms_of n (fun m hm => ih m (by omega)) _ _ f4
    rw [List.cons.injEq] at e0 e1 e2 e3 e4
    obtain ⟨rfl, _⟩ := e0
    obtain ⟨rfl, _⟩ := e1
    obtain ⟨rfl, _⟩ := e2
    obtain ⟨rfl, _⟩ := e3
    obtain ⟨rfl, _⟩ := e4
    exact ⟨⟨z0, s1, z2, zs, ks⟩, kF_mk (x := ⟨z0, s1, z2, zs, ks⟩) ⟨l3, r3, l4, r4⟩, .mk _ (by unfold maxLen at hs1; exact hs1) hN⟩
end
end Go.Proofs.Ytlklclebjeeaaaa
end
section
namespace Go.Proofs.Ytlklclebjeeaaaa
open Go.RowKit Go.Proofs.YtlklclebjeeaaaaW.PrintWords Go.Proofs.YtlklclebjeeaaaaW.PrintLast Go.Proofs.YtlklclebjeeaaaaW.PrintMore
open Go.ChangeShapes Go.WideShapes Go.ChangeAt Go.Deep
set_option linter.unusedVariables false
set_option linter.unusedSimpArgs false
section
variable {H : Type} {enc : TypeId × Value → H} {W : World} {held : Bool}
theorem len4h {α : Type} {l : List α} (h : l.length = 4) : ∃ a b c d, l = [a, b, c, d] := by
  rcases l with _ | ⟨a, _ | ⟨b, _ | ⟨c, _ | ⟨d, _ | ⟨e, l⟩⟩⟩⟩⟩ <;> simp at h
  exact ⟨a, b, c, d, rfl⟩
theorem len12 {α : Type} {l : List α} (h : l.length = 12) : ∃ a0 a1 a2 a3 a4 a5 a6 a7 a8 a9 a10 a11, l = [a0, a1, a2, a3, a4, a5, a6, a7, a8, a9, a10, a11] := by
  rcases l with _ | ⟨a0, _ | ⟨a1, _ | ⟨a2, _ | ⟨a3, _ | ⟨a4, _ | ⟨a5, _ | ⟨a6, _ | ⟨a7, _ | ⟨a8, _ | ⟨a9, _ | ⟨a10, _ | ⟨a11, _ | ⟨a12, l⟩⟩⟩⟩⟩⟩⟩⟩⟩⟩⟩⟩⟩ <;> simp at h
  exact ⟨a0, a1, a2, a3, a4, a5, a6, a7, a8, a9, a10, a11, rfl⟩
instance : Inhabited Ht := ⟨zHt⟩
theorem trod_hits_of (fuel : Nat) (ih : ∀ m, m < fuel → ∀ (cs : List Value) (y : DataW H × List MemPlace), DataW.trod enc Try.prog W 0 (fun _ => true) held m 78 cs = some y → ∃ x, kH.K W x cs ∧ HtSmall x)
    (cs : List Value) (y : DataW H × List MemPlace) (h : DataW.trod enc Try.prog W 0 (fun _ => true) held fuel 46 cs = some y) :
    ∃ (A : Option Addr) (c : Nat) (ks : List Ht), cs = [.slice A ks.length c] ∧ ks.length ≤ c ∧ kH.C W A ks.length ks ∧ ∀ k, k ∈ ks → HtSmall k := by
  rcases DataW.trod_slice Try.underlying46 h with ⟨rfl, _⟩ | ⟨a, len, cap, elems, rest, n, rfl, rfl, rfl, hb, hl, hm, hlen, hel, _, _⟩
  · exact ⟨none, 0, [], rfl, Nat.le_refl _, Kd.C_nil _ _, fun k hk => by cases hk⟩
  · have h5 : Try.prog.cellsOf 78 = 12 := by kernel_rfl
    rw [h5] at hel
    obtain ⟨f, hf⟩ := choose_lt (α := Ht) (n := len) (p := fun i x => (∃ cs', W.cells? 0 (a.add (i * 12)) 12 = some cs' ∧ kH.K W x cs') ∧ HtSmall x) (fun i hi => by
      have h1 := hel i hi
      rw [List.getElem?_eq_getElem (by omega)] at h1
      obtain ⟨cs', h2, h3⟩ := Option.bind_eq_some_iff.1 h1
      obtain ⟨x, hK, hN⟩ := ih n (Nat.lt_succ_self n) cs' _ h3
      exact ⟨x, ⟨cs', h2, hK⟩, hN⟩)
    have hlen2 : ((List.range len).map f).length = len := by simp
    refine ⟨some a, cap, (List.range len).map f, by rw [hlen2], by omega, ⟨by rw [hlen2], by rw [hlen2]; unfold maxLen at hm; omega, fun _ => ⟨a, rfl, fun j p hj => ?_⟩⟩, fun k hk => ?_⟩
    · have hjl : j < len := by have := (List.getElem?_eq_some_iff.1 hj).1; omega
      have hp : f j = p := by simpa [hjl] using hj
      obtain ⟨⟨cs', h2, hK⟩, _⟩ := hf j hjl
      rw [hp] at hK
      obtain ⟨_, h3, h4⟩ := World.cells?_some h2
      refine ⟨cs', h3, hK, fun i u hu => ?_⟩
      have hi : i < 12 := by have := (List.getElem?_eq_some_iff.1 hu).1; omega
      have := h4 i hi
      rw [Deep.add_add, hu] at this
      exact this
    · obtain ⟨j, hj, rfl⟩ := List.mem_map.1 hk
      exact (hf j (List.mem_range.1 hj)).2
set_option maxRecDepth 100000 in
theorem trod_hit : ∀ (fuel : Nat) (cs : List Value) (y : DataW H × List MemPlace), DataW.trod enc Try.prog W 0 (fun _ => true) held fuel 78 cs = some y → ∃ x, kH.K W x cs ∧ HtSmall x := by
  intro fuel
  induction fuel using Nat.strongRecOn with
  | _ fuel ih =>
    intro cs y h
    obtain ⟨xs, n, hfu, rfl, hl, hlen, hf⟩ := DataW.trod_struct Try.underlying78 h
    rw [show Try.prog.cellsOf 78 = 12 from by kernel_rfl] at hl
    obtain ⟨c0, c1, c2, c3, c4, c5, c6, c7, c8, c9, c10, c11, rfl⟩ := len12 hl
    obtain ⟨y0, y1, y2, y3, rfl⟩ := len4h (show xs.length = 4 from hlen)
    have f0 := hf 0 _ rfl
    have f1 := hf 1 _ rfl
    have f2 := hf 2 _ rfl
    have f3 := hf 3 _ rfl
    simp only [List.getElem_toArray, List.getElem_cons_zero, List.getElem_cons_succ] at f0 f1 f2 f3
    simp only [show Try.prog.cellsOf 3 = 1 from by kernel_rfl, show Try.prog.cellsOf 26 = 5 from by kernel_rfl, show Try.prog.cellsOf 46 = 1 from by kernel_rfl, List.drop_succ_cons, List.drop_zero, List.take_succ_cons, List.take_zero, List.getElem?_cons_zero, List.getElem?_cons_succ] at f0 f1 f2 f3
    obtain ⟨nm, K0, N0⟩ := trod_form n _ _ f0
    obtain ⟨z1, e1, _⟩ := DataW.trod_int Try.underlying3 f1
    obtain ⟨on, K2, N2⟩ := trod_form n _ _ f2
    obtain ⟨A, d, ks, e3, l3, r3, hN⟩ := trod_hits_of n (fun m hm => ih m (by omega)) _ _ f3
    obtain ⟨A3, d3, A4, d4, e0, i0⟩ := kF_open K0
    obtain ⟨A9, d9, A10, d10, e2, i2⟩ := kF_open K2
    rw [List.cons.injEq] at e1 e3
    obtain ⟨rfl, _⟩ := e1
    obtain ⟨rfl, _⟩ := e3
    have e0' : [c0, c1, c2, c3, c4] = fmC nm A3 d3 A4 d4 := e0
    have e2' : [c6, c7, c8, c9, c10] = fmC on A9 d9 A10 d10 := e2
    simp only [fmC, List.cons.injEq, and_true] at e0' e2'
    obtain ⟨rfl, rfl, rfl, rfl, rfl⟩ := e0'
    obtain ⟨rfl, rfl, rfl, rfl, rfl⟩ := e2'
    exact ⟨⟨nm, z1, on, ks⟩, Q.k80_mk W ⟨nm, z1, on, ks⟩ i0.l3 i0.g3 i0.l4 i0.g4 i2.l3 i2.g3 i2.l4 i2.g4 l3 r3, .mk _ N0 N2 hN⟩
set_option maxRecDepth 100000 in
/-- An argument that is a row of hits. -/
theorem open_hits {v : Value} {d : DataW H} {p : List MemPlace} (hv : Value.okWide Try.prog W .any 0 46 v) (h : DataW.Trod enc Try.prog W 0 (fun _ => true) held 46 v d p) :
    ∃ (ks : List Ht) (A : Option Addr) (c : Nat), v = .slice A ks.length c ∧ ks.length ≤ c ∧ kH.C W A ks.length ks ∧ ∀ k, k ∈ ks → HtSmall k := by
  obtain ⟨a0, len, cap, rfl⟩ := okWide_slice Try.underlying46 hv
  obtain ⟨fuel, hf⟩ := h
  obtain ⟨A, c, ks, e, l, r, hN⟩ := trod_hits_of fuel (fun m _ => trod_hit m) _ _ hf
  have e2 : Value.slice a0 len cap = Value.slice A ks.length c := by simpa [Value.cells] using e
  exact ⟨ks, A, c, e2, l, r, hN⟩
end
end Go.Proofs.Ytlklclebjeeaaaa
end
