/- Words for the laws' proofs (part 4): contracts of functions, and plain lemmas. -/
import Derived.Deep.RegionHeld3
import Derived.Test.YteeepenncddnjaaDoorKc1
import Derived.Test.YteeepenncddnjaaDoorKc2
import Derived.Test.YteeepenncddnjaaDoorKc3
section
namespace Go.Proofs.YteeepenncddnjaaDoor.Q
open Go.RowKit Go.Proofs.YteeepenncddnjaaDoorW.PrintWords Go.Proofs.YteeepenncddnjaaDoorW.PrintLast Go.Proofs.YteeepenncddnjaaDoorW.PrintMore
attribute [local go_sem] max2_int min2_int max_two min_two max_three min_three max_four min_four   -- for this text's walks alone
set_option linter.unusedVariables false
set_option linter.unusedSimpArgs false

mutual
noncomputable def spec_FormatBinds.l0 : Nat → List (S60) → ByteArray → Int → Option (ByteArray)
  | 0, _, _, _ => none
  | k + 1, x0, x3, x4 => if x4 < (x0.length : Int) then ((spec_BindsValid.f k x0).bind fun t177 => (spec_FormatBinds.j1 k x0 x3 x4 t177)) else (spec_FormatBinds.j1 k x0 x3 x4 false)
noncomputable def spec_FormatBinds.j1 : Nat → List (S60) → ByteArray → Int → Bool → Option (ByteArray)
  | 0, _, _, _, _ => none
  | k + 1, x0, x3, x4, x12 => if x12 = true then (if 0 ≤ x4 then (if x4 < (x0.length : Int) then ((spec_l1Text.f 1 ((rd_T60 x0 x4).f0) 0 ((rd_T60 x0 x4).f1) ([] : List (S26))).bind fun t180 => (if x3.size + t180.size ≤ 9223372036854775807 then (if (x3 ++ t180).size + 3 ≤ 9223372036854775807 then ((spec_l15Dec.f k ((rd_T60 x0 x4).f2)).bind fun t182 => (if ((x3 ++ t180) ++ (⟨#[32, 61, 32]⟩ : ByteArray)).size + t182.size ≤ 9223372036854775807 then (if (((x3 ++ t180) ++ (⟨#[32, 61, 32]⟩ : ByteArray)) ++ t182).size + 1 ≤ 9223372036854775807 then (spec_FormatBinds.l0 k x0 ((((x3 ++ t180) ++ (⟨#[32, 61, 32]⟩ : ByteArray)) ++ t182) ++ (⟨#[10]⟩ : ByteArray)) (wrap64 (x4 + 1))) else (none)) else (none))) else (none)) else (none))) else (none)) else (none)) else (some x3)
end
noncomputable def spec_FormatBinds.f (k : Nat) (l0 : List (S60)) : Option (ByteArray) := spec_FormatBinds.l0 k l0 (⟨#[]⟩ : ByteArray) 0
theorem spec_FormatBinds.mono_l : ∀ k, (∀ y0 y1 y2, LeO (spec_FormatBinds.l0 k y0 y1 y2) (spec_FormatBinds.l0 (k + 1) y0 y1 y2)) ∧ (∀ y0 y1 y2 y3, LeO (spec_FormatBinds.j1 k y0 y1 y2 y3) (spec_FormatBinds.j1 (k + 1) y0 y1 y2 y3))
  | 0 => ⟨fun _ _ _ r h => by simp [spec_FormatBinds.l0] at h, fun _ _ _ _ r h => by simp [spec_FormatBinds.j1] at h⟩
  | k + 1 => by
    obtain ⟨ih0, ih1⟩ := spec_FormatBinds.mono_l k
    refine ⟨?_, ?_⟩
    · intro y0 y1 y2
      unfold spec_FormatBinds.l0
      repeat' first
      | (with_reducible exact ih0 _ _ _)
      | (with_reducible exact ih1 _ _ _ _)
      | (with_reducible exact spec_BindsValid.mono _ _)
      | (with_reducible exact spec_l15Dec.mono _ _)
      | (with_reducible exact LeO.refl _)
      | (with_reducible exact LeO.none _)
      | (with_reducible refine LeO.ite ?_ ?_)
      | (with_reducible refine LeO.bind ?_ (fun _ => ?_))
      | exact ih0 _ _ _
      | exact ih1 _ _ _ _
      | exact spec_BindsValid.mono _ _
      | exact spec_l15Dec.mono _ _
      | exact LeO.none _
      | refine LeO.ite ?_ ?_
      | refine LeO.bind ?_ (fun _ => ?_)
    · intro y0 y1 y2 y3
      unfold spec_FormatBinds.j1
      repeat' first
      | (with_reducible exact ih0 _ _ _)
      | (with_reducible exact ih1 _ _ _ _)
      | (with_reducible exact spec_BindsValid.mono _ _)
      | (with_reducible exact spec_l15Dec.mono _ _)
      | (with_reducible exact LeO.refl _)
      | (with_reducible exact LeO.none _)
      | (with_reducible refine LeO.ite ?_ ?_)
      | (with_reducible refine LeO.bind ?_ (fun _ => ?_))
      | exact ih0 _ _ _
      | exact ih1 _ _ _ _
      | exact spec_BindsValid.mono _ _
      | exact spec_l15Dec.mono _ _
      | exact LeO.none _
      | refine LeO.ite ?_ ?_
      | refine LeO.bind ?_ (fun _ => ?_)
theorem spec_FormatBinds.mono : ∀ a0 k, LeO (spec_FormatBinds.f k a0) (spec_FormatBinds.f (k + 1) a0) := by
  intro a0 k
  obtain ⟨ih0, ih1⟩ := spec_FormatBinds.mono_l k
  unfold spec_FormatBinds.f
  repeat' first
      | (with_reducible exact ih0 _ _ _)
      | (with_reducible exact ih1 _ _ _ _)
      | (with_reducible exact spec_BindsValid.mono _ _)
      | (with_reducible exact spec_l15Dec.mono _ _)
      | (with_reducible exact LeO.refl _)
      | (with_reducible exact LeO.none _)
      | (with_reducible refine LeO.ite ?_ ?_)
      | (with_reducible refine LeO.bind ?_ (fun _ => ?_))
      | exact ih0 _ _ _
      | exact ih1 _ _ _ _
      | exact spec_BindsValid.mono _ _
      | exact spec_l15Dec.mono _ _
      | exact LeO.none _
      | refine LeO.ite ?_ ?_
      | refine LeO.bind ?_ (fun _ => ?_)
noncomputable def spec_FormatBinds.T5 : Bool × List (List Nat × List Nat) := (true, [([], []), ([], []), ([], []), ([1, 2], [1, 2]), ([3], [3]), ([4], [4]), ([], []), ([], []), ([6, 7], [6, 7]), ([8], [8]), ([9], [9]), ([5, 10], [5, 10]), ([11], [11]), ([0, 12], [0, 12]), ([13], [13]), ([], []), ([], []), ([15, 16], [15, 16]), ([17], [17]), ([18], [18]), ([19, 12], [19]), ([14, 20], [14, 20]), ([21], [21]), ([22, 20, 0, 1, 2, 3, 4, 5, 6, 7, 8, 9, 10, 11, 12, 13, 14, 15, 16, 17, 18, 19, 20, 21, 22], [0, 22])])
noncomputable def spec_FormatBinds.B5 : List Nat := [0, 0, 0, 6, 14, 30, 0, 0, 192, 448, 960, 2046, 4094, 8191, 16383, 0, 0, 98304, 229376, 491520, 1023998, 2097151, 4194303, 8388607]
theorem spec_FormatBinds.tab5 : rtab .any (opsOf Tryd.f20 5) = spec_FormatBinds.T5 := by kernel_rfl
theorem spec_FormatBinds.bits5 : waitsOk spec_FormatBinds.T5.2 spec_FormatBinds.B5 = true := by kernel_rfl
set_option maxHeartbeats 8000000 in
set_option maxRecDepth 100000 in
theorem spec_FormatBinds.calls (k : Nat) (A0 : Option Addr) (c0 : Nat) (l0 : List (S60)) (r : ByteArray) (w : World) (hr0 : Kd.C k60 w A0 l0.length l0) (hc0 : l0.length ≤ c0) (h : spec_FormatBinds.f k l0 = some r) :
    Calls Tryd.prog 20 #[.slice A0 l0.length c0] w fun e w' => e = .returned (.string r) ∧ Below w.heap.size w w' := by
  have hu26 := Tryd.underlying26
  have HR0 := Aside0.mk hr0
  have HC0 := Aside0.mk hc0
  clear hr0 hc0
  have HB := Aside0.mk (Below.refl w.heap.size w)
  have H : (spec_FormatBinds.l0 k l0 (⟨#[]⟩ : ByteArray) 0) = some r := h
  clear h
  have H' := Aside0.mk H
  clear H
  go_enter Tryd.func20, Tryd.ntmps20
  go_wp2
  go_loopg [3, 4] k (fun kq v3 v4 w' => ∃ (x3_1 : ByteArray) (x4_1 : Int), v3 = .string x3_1 ∧ v4 = .int .i64 x4_1 ∧ Aside0 (spec_FormatBinds.l0 kq l0 x3_1 x4_1 = some r) ∧ Aside0 (kq ≤ k) ∧ Aside0 (Below w.heap.size w w'))
  case atStart => exact ⟨((⟨#[]⟩ : ByteArray)), (0), (by first | rfl | (simp; done) | (simp [*]; done)), (by first | rfl | (simp; done) | (simp [*]; done)), H', ⟨Nat.le_refl _⟩, ⟨by repeat (first | (with_reducible first | exact HB.out | apply below_alloc | apply pw_below_drewN | apply below_drew1) | exact HB.out)⟩⟩
  case round =>
    clear H'
    obtain ⟨x3_1, x4_1, rfl, rfl, HA, HK1, HB⟩ := hrel
    cases gk with
    | zero => exact absurd HA.out (by simp [spec_FormatBinds.l0])
    | succ k1 =>
      have H := HA.out
      clear HA
      simp only [spec_FormatBinds.l0] at H
      have HC2 := Aside0.mk H
      clear H
      go_upto_region 3 with (fail)
      go_cut [12] (fun v12 wc => ∃ (kq : Nat) (x12_1 : Bool), v12 = .bool x12_1 ∧ Aside0 (spec_FormatBinds.j1 kq l0 x3_1 x4_1 x12_1 = some r) ∧ Aside0 (kq ≤ k1) ∧ Aside0 (Below w.heap.size w wc))
      case first =>
        have H := HC2.out
        clear HC2
        by_cases c3 : x4_1 < (l0.length : Int)
        · rw [if_pos c3] at H
          have c3b0 : decide (x4_1 < (l0.length : Int)) = true := decide_eq_true c3
          clear c3
          (first | rw [c3b0] | (simp only [i64_w, i32_w]; rw [c3b0]) | skip)
          replace H := Option.bind_eq_some_iff.mp H
          obtain ⟨t177, A40, H⟩ := H
          replace H : (spec_FormatBinds.j1 k1 l0 x3_1 x4_1 t177) = some r := H
          have A4 := Aside0.mk A40
          clear A40
          have H' := Aside0.mk H
          clear H
          go_wp2_with (first | (go_at_call 21; (with_reducible refine (spec_BindsValid.calls k1 _ _ l0 t177 _ ?side1 ?side2 A4.out).mono ?_); (case side1 => repeat (first | exact (Kd.C_below HR0.out HB.out) | (with_reducible refine Kd.C_alloc ?_ _) | (with_reducible refine Kd.C_drewN ?_ _) | (with_reducible refine Kd.C_drew ?_))); (case side2 => exact HC0.out); rintro e w5 ⟨rfl, hb⟩; have n0_ := Aside0.mk (below_step (by repeat (first | (with_reducible first | exact HB.out | apply below_alloc | apply pw_below_drewN | apply below_drew1) | exact HB.out)) hb); clear HB; have HB := n0_; clear n0_; (try clear hb); (try clear hb2); (try clear hk); (try clear hi)))
          go_meet
          case rel => exact ⟨_, (t177), (by first | rfl | (simp; done) | (simp [*]; done)), H', ⟨by have := HK1.out; first | omega | exact Nat.le_refl _⟩, ⟨by repeat (first | (with_reducible first | exact HB.out | apply below_alloc | apply pw_below_drewN | apply below_drew1) | exact HB.out)⟩⟩
        · rw [if_neg c3] at H
          have c3b0 : decide (x4_1 < (l0.length : Int)) = false := decide_eq_false c3
          clear c3
          (first | rw [c3b0] | (simp only [i64_w, i32_w]; rw [c3b0]) | skip)
          have H' := Aside0.mk H
          clear H
          go_wp2
          go_meet
          case rel => exact ⟨_, (false), (by first | rfl | (simp; done) | (simp [*]; done)), H', ⟨by have := HK1.out; first | omega | exact Nat.le_refl _⟩, ⟨by repeat (first | (with_reducible first | exact HB.out | apply below_alloc | apply pw_below_drewN | apply below_drew1) | exact HB.out)⟩⟩
      case rest =>
        clear HC2
        try clear c2
        try clear p2
        try clear c3
        try clear c3b0
        obtain ⟨kq, x12_1, rfl, HA, HJ1, HB⟩ := hcut
        cases kq with
        | zero => exact absurd HA.out (by simp [spec_FormatBinds.j1])
        | succ kj1 =>
          have H := HA.out
          clear HA
          simp only [spec_FormatBinds.j1] at H
          by_cases c6 : x12_1 = true
          · subst c6
            have H1 : (if 0 ≤ x4_1 then (if x4_1 < (l0.length : Int) then ((spec_l1Text.f 1 ((rd_T60 l0 x4_1).f0) 0 ((rd_T60 l0 x4_1).f1) ([] : List (S26))).bind fun t180 => (if x3_1.size + t180.size ≤ 9223372036854775807 then (if (x3_1 ++ t180).size + 3 ≤ 9223372036854775807 then ((spec_l15Dec.f kj1 ((rd_T60 l0 x4_1).f2)).bind fun t182 => (if ((x3_1 ++ t180) ++ (⟨#[32, 61, 32]⟩ : ByteArray)).size + t182.size ≤ 9223372036854775807 then (if (((x3_1 ++ t180) ++ (⟨#[32, 61, 32]⟩ : ByteArray)) ++ t182).size + 1 ≤ 9223372036854775807 then (spec_FormatBinds.l0 kj1 l0 ((((x3_1 ++ t180) ++ (⟨#[32, 61, 32]⟩ : ByteArray)) ++ t182) ++ (⟨#[10]⟩ : ByteArray)) (wrap64 (x4_1 + 1))) else (none)) else (none))) else (none)) else (none))) else (none)) else (none)) = some r := by rw [if_pos rfl] at H; exact H
            clear H
            have H := H1
            clear H1
            by_cases c7 : 0 ≤ x4_1
            · rw [if_pos c7] at H
              have c7b0 : decide (0 ≤ x4_1) = true := decide_eq_true c7
              clear c7
              by_cases c8 : x4_1 < (l0.length : Int)
              · rw [if_pos c8] at H
                have c8b0 : decide (x4_1 < (l0.length : Int)) = true := decide_eq_true c8
                clear c8
                replace H := Option.bind_eq_some_iff.mp H
                obtain ⟨t180, A90, H⟩ := H
                replace H : (if x3_1.size + t180.size ≤ 9223372036854775807 then (if (x3_1 ++ t180).size + 3 ≤ 9223372036854775807 then ((spec_l15Dec.f kj1 ((rd_T60 l0 x4_1).f2)).bind fun t182 => (if ((x3_1 ++ t180) ++ (⟨#[32, 61, 32]⟩ : ByteArray)).size + t182.size ≤ 9223372036854775807 then (if (((x3_1 ++ t180) ++ (⟨#[32, 61, 32]⟩ : ByteArray)) ++ t182).size + 1 ≤ 9223372036854775807 then (spec_FormatBinds.l0 kj1 l0 ((((x3_1 ++ t180) ++ (⟨#[32, 61, 32]⟩ : ByteArray)) ++ t182) ++ (⟨#[10]⟩ : ByteArray)) (wrap64 (x4_1 + 1))) else (none)) else (none))) else (none)) else (none)) = some r := H
                have A9 := Aside0.mk A90
                clear A90
                by_cases c10 : x3_1.size + t180.size ≤ 9223372036854775807
                · rw [if_pos c10] at H
                  have c10b0 := eq_true c10
                  have c10b1 : decide (x3_1.size + t180.size ≤ 9223372036854775807) = true := decide_eq_true c10
                  try have c10b2 : (9223372036854775807 < x3_1.size + t180.size) = False := eq_false (Nat.not_lt.2 c10)
                  by_cases c11 : (x3_1 ++ t180).size + 3 ≤ 9223372036854775807
                  · rw [if_pos c11] at H
                    have c11b0 := eq_true c11
                    have c11b1 : decide ((x3_1 ++ t180).size + 3 ≤ 9223372036854775807) = true := decide_eq_true c11
                    try have c11b2 : (9223372036854775807 < (x3_1 ++ t180).size + 3) = False := eq_false (Nat.not_lt.2 c11)
                    have c11b3 : (9223372036854775807 < x3_1.size + t180.size + 3) = False := eq_false (by have h_ := c11; simp only [ByteArray.size_append] at h_; omega)
                    replace H := Option.bind_eq_some_iff.mp H
                    obtain ⟨t182, A120, H⟩ := H
                    replace H : (if ((x3_1 ++ t180) ++ (⟨#[32, 61, 32]⟩ : ByteArray)).size + t182.size ≤ 9223372036854775807 then (if (((x3_1 ++ t180) ++ (⟨#[32, 61, 32]⟩ : ByteArray)) ++ t182).size + 1 ≤ 9223372036854775807 then (spec_FormatBinds.l0 kj1 l0 ((((x3_1 ++ t180) ++ (⟨#[32, 61, 32]⟩ : ByteArray)) ++ t182) ++ (⟨#[10]⟩ : ByteArray)) (wrap64 (x4_1 + 1))) else (none)) else (none)) = some r := H
                    have A12 := Aside0.mk A120
                    clear A120
                    by_cases c13 : ((x3_1 ++ t180) ++ (⟨#[32, 61, 32]⟩ : ByteArray)).size + t182.size ≤ 9223372036854775807
                    · rw [if_pos c13] at H
                      have c13b0 := eq_true c13
                      have c13b1 : decide (((x3_1 ++ t180) ++ (⟨#[32, 61, 32]⟩ : ByteArray)).size + t182.size ≤ 9223372036854775807) = true := decide_eq_true c13
                      try have c13b2 : (9223372036854775807 < ((x3_1 ++ t180) ++ (⟨#[32, 61, 32]⟩ : ByteArray)).size + t182.size) = False := eq_false (Nat.not_lt.2 c13)
                      have c13b3 : (9223372036854775807 < x3_1.size + t180.size + 3 + t182.size) = False := eq_false (by have h_ := c13; simp only [ByteArray.size_append] at h_; have z0_ : (⟨#[32, 61, 32]⟩ : ByteArray).size = 3 := rfl; omega)
                      by_cases c14 : (((x3_1 ++ t180) ++ (⟨#[32, 61, 32]⟩ : ByteArray)) ++ t182).size + 1 ≤ 9223372036854775807
                      · rw [if_pos c14] at H
                        have c14b0 := eq_true c14
                        have c14b1 : decide ((((x3_1 ++ t180) ++ (⟨#[32, 61, 32]⟩ : ByteArray)) ++ t182).size + 1 ≤ 9223372036854775807) = true := decide_eq_true c14
                        try have c14b2 : (9223372036854775807 < (((x3_1 ++ t180) ++ (⟨#[32, 61, 32]⟩ : ByteArray)) ++ t182).size + 1) = False := eq_false (Nat.not_lt.2 c14)
                        have c14b3 : (9223372036854775807 < x3_1.size + t180.size + 3 + t182.size + 1) = False := eq_false (by have h_ := c14; simp only [ByteArray.size_append] at h_; have z0_ : (⟨#[32, 61, 32]⟩ : ByteArray).size = 3 := rfl; omega)
                        have H' := Aside0.mk H
                        clear H
                        try go_wp2
                        have n0_ := Aside0.mk (below_drew1 HB.out)
                        clear HB
                        have HB := n0_
                        clear n0_
                        have p178 : 0 ≤ (x4_1 : Int) := of_decide_eq_true (by first | (with_reducible assumption) | assumption)
                        have q178 : x4_1 < (l0.length : Int) := of_decide_eq_true (by first | (with_reducible assumption) | assumption)
                        obtain ⟨ad178, A178_1, c178_1, e178, hx178_0, hx178_1, hx178_2, hl178_1, hi178_1⟩ := at_T60 HR0.out x4_1 p178 q178
                        have hw178_2 := hx178_2
                        have hw178_1 := hx178_1
                        have hw178_0 := hx178_0
                        cases e178
                        replace hx178_0 := (HB.out.cell (World.block_lt_of_cell? w _ hx178_0)).trans hx178_0
                        replace hx178_1 := (HB.out.cell (World.block_lt_of_cell? w _ hx178_1)).trans hx178_1
                        replace hx178_2 := (HB.out.cell (World.block_lt_of_cell? w _ hx178_2)).trans hx178_2
                        have HR178_1 := Aside0.mk hi178_1
                        have HC178_1 := Aside0.mk hl178_1
                        clear hi178_1 hl178_1
                        replace p178 := eq_true p178
                        replace q178 := eq_true q178
                        have p179 : 0 ≤ (x4_1 : Int) := of_decide_eq_true (by first | (with_reducible assumption) | assumption)
                        have q179 : x4_1 < (l0.length : Int) := of_decide_eq_true (by first | (with_reducible assumption) | assumption)
                        obtain ⟨ad179, A179_1, c179_1, e179, hx179_0, hx179_1, hx179_2, hl179_1, hi179_1⟩ := at_T60 HR0.out x4_1 p179 q179
                        have hw179_2 := hx179_2
                        have hw179_1 := hx179_1
                        have hw179_0 := hx179_0
                        obtain rfl : ad178 = ad179 := (by injection e179)
                        replace hx179_0 := (HB.out.cell (World.block_lt_of_cell? w _ hx179_0)).trans hx179_0
                        replace hx179_1 := (HB.out.cell (World.block_lt_of_cell? w _ hx179_1)).trans hx179_1
                        replace hx179_2 := (HB.out.cell (World.block_lt_of_cell? w _ hx179_2)).trans hx179_2
                        have HR179_1 := Aside0.mk hi179_1
                        have HC179_1 := Aside0.mk hl179_1
                        clear hi179_1 hl179_1
                        replace p179 := eq_true p179
                        replace q179 := eq_true q179
                        have ea_ := Option.some.inj (hx178_1.symm.trans hx179_1)
                        injection ea_ with ea_ en_ ec_
                        subst ea_
                        subst ec_
                        clear en_
                        have p181 : 0 ≤ (x4_1 : Int) := of_decide_eq_true (by first | (with_reducible assumption) | assumption)
                        have q181 : x4_1 < (l0.length : Int) := of_decide_eq_true (by first | (with_reducible assumption) | assumption)
                        obtain ⟨ad181, A181_1, c181_1, e181, hx181_0, hx181_1, hx181_2, hl181_1, hi181_1⟩ := at_T60 HR0.out x4_1 p181 q181
                        have hw181_2 := hx181_2
                        have hw181_1 := hx181_1
                        have hw181_0 := hx181_0
                        obtain rfl : ad178 = ad181 := (by injection e181)
                        replace hx181_0 := (HB.out.cell (World.block_lt_of_cell? w _ hx181_0)).trans hx181_0
                        replace hx181_1 := (HB.out.cell (World.block_lt_of_cell? w _ hx181_1)).trans hx181_1
                        replace hx181_2 := (HB.out.cell (World.block_lt_of_cell? w _ hx181_2)).trans hx181_2
                        have HR181_1 := Aside0.mk hi181_1
                        have HC181_1 := Aside0.mk hl181_1
                        clear hi181_1 hl181_1
                        replace p181 := eq_true p181
                        replace q181 := eq_true q181
                        have ea_ := Option.some.inj (hx178_1.symm.trans hx181_1)
                        injection ea_ with ea_ en_ ec_
                        subst ea_
                        subst ec_
                        clear en_
                        refine start_ (n := 24) (S := fun w' => w'.cell? (ad178.add ((x4_1).toNat * 3)) = some (.string ((rd_T60 l0 x4_1).f0)) ∧ w'.cell? ⟨(ad178.add ((x4_1).toNat * 3)).block, (ad178.add ((x4_1).toNat * 3)).off + 1, none⟩ = some (.slice A178_1 ((rd_T60 l0 x4_1).f1).length c178_1) ∧ w'.cell? ⟨(ad178.add ((x4_1).toNat * 3)).block, (ad178.add ((x4_1).toNat * 3)).off + 2, none⟩ = some (.int .i64 ((rd_T60 l0 x4_1).f2)) ∧ w'.cell? (ad178.add ((x4_1).toNat * 3)) = some (.string ((rd_T60 l0 x4_1).f0)) ∧ w'.cell? ⟨(ad178.add ((x4_1).toNat * 3)).block, (ad178.add ((x4_1).toNat * 3)).off + 1, none⟩ = some (.slice A178_1 ((rd_T60 l0 x4_1).f1).length c178_1) ∧ w'.cell? ⟨(ad178.add ((x4_1).toNat * 3)).block, (ad178.add ((x4_1).toNat * 3)).off + 2, none⟩ = some (.int .i64 ((rd_T60 l0 x4_1).f2)) ∧ w'.cell? (ad178.add ((x4_1).toNat * 3)) = some (.string ((rd_T60 l0 x4_1).f0)) ∧ w'.cell? ⟨(ad178.add ((x4_1).toNat * 3)).block, (ad178.add ((x4_1).toNat * 3)).off + 1, none⟩ = some (.slice A178_1 ((rd_T60 l0 x4_1).f1).length c178_1) ∧ w'.cell? ⟨(ad178.add ((x4_1).toNat * 3)).block, (ad178.add ((x4_1).toNat * 3)).off + 2, none⟩ = some (.int .i64 ((rd_T60 l0 x4_1).f2))) (ds := []) #[false, false, false, false, false, false, false, false, false, false, false, false, false, false, false, false, false, false, false, false, false, false, false, false] (by kernel_rfl) rfl rfl ⟨((HB.out.cell (World.block_lt_of_cell? w _ hw178_0)).trans hw178_0), ((HB.out.cell (World.block_lt_of_cell? w _ hw178_1)).trans hw178_1), ((HB.out.cell (World.block_lt_of_cell? w _ hw178_2)).trans hw178_2), ((HB.out.cell (World.block_lt_of_cell? w _ hw179_0)).trans hw179_0), ((HB.out.cell (World.block_lt_of_cell? w _ hw179_1)).trans hw179_1), ((HB.out.cell (World.block_lt_of_cell? w _ hw179_2)).trans hw179_2), ((HB.out.cell (World.block_lt_of_cell? w _ hw181_0)).trans hw181_0), ((HB.out.cell (World.block_lt_of_cell? w _ hw181_1)).trans hw181_1), ((HB.out.cell (World.block_lt_of_cell? w _ hw181_2)).trans hw181_2)⟩ (fun hHeld => ?_); refine with_tabW spec_FormatBinds.tab5 spec_FormatBinds.bits5 (fun HT_ HW_ => ?_)
                        generalize wc.drew = w15 at HB HR178_1 HR179_1 HR181_1 hx178_0 hx178_1 hx178_2 hx179_0 hx179_1 hx179_2 hx181_0 hx181_1 hx181_2 hHeld ⊢
                        refine pure_ (i := 0) (N := some 15) (v := ?_) (a' := ?_) #[true, false, false, false, false, false, false, false, false, false, false, false, false, false, false, false, false, false, false, false, false, false, false, false] rfl rfl (any_of HT_.out (by kernel_rfl)) (fun _ _ _ h => h) (Or.inl ⟨by rfl, ?_⟩) ?_ ?_
                        rotate_left
                        · intro w'
                          go_simp
                          with_reducible rfl
                        rotate_left
                        · simp only [Act.put, List.setIfInBounds_toArray, List.set_cons_zero, List.set_cons_succ, i64_w, i32_w]
                          rfl
                        refine pure_ (i := 1) (N := some 16) (v := ?_) (a' := ?_) #[true, true, false, false, false, false, false, false, false, false, false, false, false, false, false, false, false, false, false, false, false, false, false, false] rfl rfl (any_of HT_.out (by kernel_rfl)) (fun _ _ _ h => h) (Or.inl ⟨by rfl, ?_⟩) ?_ ?_
                        rotate_left
                        · intro w'
                          go_simp
                          with_reducible rfl
                        rotate_left
                        · simp only [Act.put, List.setIfInBounds_toArray, List.set_cons_zero, List.set_cons_succ, i64_w, i32_w]
                          rfl
                        refine pure_ (i := 2) (N := some 17) (v := ?_) (a' := ?_) #[true, true, true, false, false, false, false, false, false, false, false, false, false, false, false, false, false, false, false, false, false, false, false, false] rfl rfl (any_of HT_.out (by kernel_rfl)) (fun _ _ _ h => h) (Or.inl ⟨by rfl, ?_⟩) ?_ ?_
                        rotate_left
                        · intro w'
                          go_simp
                          with_reducible rfl
                        rotate_left
                        · simp only [Act.put, List.setIfInBounds_toArray, List.set_cons_zero, List.set_cons_succ, i64_w, i32_w]
                          rfl
                        refine pure_ (i := 3) (N := some 18) (v := ?_) (a' := ?_) #[true, true, true, true, false, false, false, false, false, false, false, false, false, false, false, false, false, false, false, false, false, false, false, false] rfl rfl (any_of HT_.out (by kernel_rfl)) (fun _ _ _ h => h) (Or.inl ⟨by rfl, ?_⟩) ?_ ?_
                        rotate_left
                        · intro w'
                          go_simp
                          with_reducible rfl
                        rotate_left
                        · simp only [Act.put, List.setIfInBounds_toArray, List.set_cons_zero, List.set_cons_succ, i64_w, i32_w]
                          rfl
                        refine pure_ (i := 4) (N := some 19) (v := ?_) (a' := ?_) #[true, true, true, true, true, false, false, false, false, false, false, false, false, false, false, false, false, false, false, false, false, false, false, false] rfl rfl (any_of HT_.out (by kernel_rfl)) (fun _ _ _ h => h) (Or.inl ⟨by rfl, ?_⟩) ?_ ?_
                        rotate_left
                        · intro w'
                          go_simp
                          with_reducible rfl
                        rotate_left
                        · simp only [Act.put, List.setIfInBounds_toArray, List.set_cons_zero, List.set_cons_succ, i64_w, i32_w]
                          rfl
                        refine pure_ (i := 6) (N := some 21) (v := ?_) (a' := ?_) #[true, true, true, true, true, false, true, false, false, false, false, false, false, false, false, false, false, false, false, false, false, false, false, false] rfl rfl (any_of HT_.out (by kernel_rfl)) (fun _ _ _ h => h) (Or.inl ⟨by rfl, ?_⟩) ?_ ?_
                        rotate_left
                        · intro w'
                          go_simp
                          with_reducible rfl
                        rotate_left
                        · simp only [Act.put, List.setIfInBounds_toArray, List.set_cons_zero, List.set_cons_succ, i64_w, i32_w]
                          rfl
                        refine pure_ (i := 7) (N := some 22) (v := ?_) (a' := ?_) #[true, true, true, true, true, false, true, true, false, false, false, false, false, false, false, false, false, false, false, false, false, false, false, false] rfl rfl (any_of HT_.out (by kernel_rfl)) (fun _ _ _ h => h) (Or.inl ⟨by rfl, ?_⟩) ?_ ?_
                        rotate_left
                        · intro w'
                          go_simp
                          with_reducible rfl
                        rotate_left
                        · simp only [Act.put, List.setIfInBounds_toArray, List.set_cons_zero, List.set_cons_succ, i64_w, i32_w]
                          rfl
                        refine pure_ (i := 8) (N := some 23) (v := ?_) (a' := ?_) #[true, true, true, true, true, false, true, true, true, false, false, false, false, false, false, false, false, false, false, false, false, false, false, false] rfl rfl (any_of HT_.out (by kernel_rfl)) (fun _ _ _ h => h) (Or.inl ⟨by rfl, ?_⟩) ?_ ?_
                        rotate_left
                        · intro w'
                          go_simp
                          with_reducible rfl
                        rotate_left
                        · simp only [Act.put, List.setIfInBounds_toArray, List.set_cons_zero, List.set_cons_succ, i64_w, i32_w]
                          rfl
                        refine pure_ (i := 9) (N := some 24) (v := ?_) (a' := ?_) #[true, true, true, true, true, false, true, true, true, true, false, false, false, false, false, false, false, false, false, false, false, false, false, false] rfl rfl (any_of HT_.out (by kernel_rfl)) (fun _ _ _ h => h) (Or.inl ⟨by rfl, ?_⟩) ?_ ?_
                        rotate_left
                        · intro w'
                          go_simp
                          with_reducible rfl
                        rotate_left
                        · simp only [Act.put, List.setIfInBounds_toArray, List.set_cons_zero, List.set_cons_succ, i64_w, i32_w]
                          rfl
                        refine pure_ (i := 15) (N := some 30) (v := ?_) (a' := ?_) #[true, true, true, true, true, false, true, true, true, true, false, false, false, false, false, true, false, false, false, false, false, false, false, false] rfl rfl (any_of HT_.out (by kernel_rfl)) (fun _ _ _ h => h) (Or.inl ⟨by rfl, ?_⟩) ?_ ?_
                        rotate_left
                        · intro w'
                          go_simp
                          with_reducible rfl
                        rotate_left
                        · simp only [Act.put, List.setIfInBounds_toArray, List.set_cons_zero, List.set_cons_succ, i64_w, i32_w]
                          rfl
                        refine pure_ (i := 16) (N := some 31) (v := ?_) (a' := ?_) #[true, true, true, true, true, false, true, true, true, true, false, false, false, false, false, true, true, false, false, false, false, false, false, false] rfl rfl (any_of HT_.out (by kernel_rfl)) (fun _ _ _ h => h) (Or.inl ⟨by rfl, ?_⟩) ?_ ?_
                        rotate_left
                        · intro w'
                          go_simp
                          with_reducible rfl
                        rotate_left
                        · simp only [Act.put, List.setIfInBounds_toArray, List.set_cons_zero, List.set_cons_succ, i64_w, i32_w]
                          rfl
                        refine pure_ (i := 17) (N := some 32) (v := ?_) (a' := ?_) #[true, true, true, true, true, false, true, true, true, true, false, false, false, false, false, true, true, true, false, false, false, false, false, false] rfl rfl (any_of HT_.out (by kernel_rfl)) (fun _ _ _ h => h) (Or.inl ⟨by rfl, ?_⟩) ?_ ?_
                        rotate_left
                        · intro w'
                          go_simp
                          with_reducible rfl
                        rotate_left
                        · simp only [Act.put, List.setIfInBounds_toArray, List.set_cons_zero, List.set_cons_succ, i64_w, i32_w]
                          rfl
                        refine pure_ (i := 18) (N := some 33) (v := ?_) (a' := ?_) #[true, true, true, true, true, false, true, true, true, true, false, false, false, false, false, true, true, true, true, false, false, false, false, false] rfl rfl (any_of HT_.out (by kernel_rfl)) (fun _ _ _ h => h) (Or.inl ⟨by rfl, ?_⟩) ?_ ?_
                        rotate_left
                        · intro w'
                          go_simp
                          with_reducible rfl
                        rotate_left
                        · simp only [Act.put, List.setIfInBounds_toArray, List.set_cons_zero, List.set_cons_succ, i64_w, i32_w]
                          rfl
                        refine take_ (i := 5) (N := some 20) (v := ?_) (a' := ?_) #[true, true, true, true, true, true, true, true, true, true, false, false, false, false, false, true, true, true, true, false, false, false, false, false] rfl rfl (take_ofW HT_.out HW_.out (by kernel_rfl)) (fun _ _ _ h => h) (Or.inl ⟨by rfl, ?_⟩) hHeld ?_ ?_
                        rotate_left
                        · rintro w' ⟨s0, s1, s2, s3, s4, s5, s6, s7, s8⟩
                          go_simp
                          with_reducible rfl
                        rotate_left
                        · simp only [Act.put, List.setIfInBounds_toArray, List.set_cons_zero, List.set_cons_succ, i64_w, i32_w]
                          rfl
                        refine take_ (i := 10) (N := some 25) (v := ?_) (a' := ?_) #[true, true, true, true, true, true, true, true, true, true, true, false, false, false, false, true, true, true, true, false, false, false, false, false] rfl rfl (take_ofW HT_.out HW_.out (by kernel_rfl)) (fun _ _ _ h => h) (Or.inl ⟨by rfl, ?_⟩) hHeld ?_ ?_
                        rotate_left
                        · rintro w' ⟨s0, s1, s2, s3, s4, s5, s6, s7, s8⟩
                          go_simp
                          with_reducible rfl
                        rotate_left
                        · simp only [Act.put, List.setIfInBounds_toArray, List.set_cons_zero, List.set_cons_succ, i64_w, i32_w]
                          rfl
                        refine pure_ (i := 11) (N := some 26) (v := ?_) (a' := ?_) #[true, true, true, true, true, true, true, true, true, true, true, true, false, false, false, true, true, true, true, false, false, false, false, false] rfl rfl (any_of HT_.out (by kernel_rfl)) (fun _ _ _ h => h) (Or.inl ⟨by rfl, ?_⟩) ?_ ?_
                        rotate_left
                        · intro w'
                          go_simp
                          with_reducible rfl
                        rotate_left
                        · simp only [Act.put, List.setIfInBounds_toArray, List.set_cons_zero, List.set_cons_succ, i64_w, i32_w]
                          rfl
                        refine take_ (i := 19) (N := some 34) (v := ?_) (a' := ?_) #[true, true, true, true, true, true, true, true, true, true, true, true, false, false, false, true, true, true, true, true, false, false, false, false] rfl rfl (take_ofW HT_.out HW_.out (by kernel_rfl)) (fun _ _ _ h => h) (Or.inl ⟨by rfl, ?_⟩) hHeld ?_ ?_
                        rotate_left
                        · rintro w' ⟨s0, s1, s2, s3, s4, s5, s6, s7, s8⟩
                          go_simp
                          with_reducible rfl
                        rotate_left
                        · simp only [Act.put, List.setIfInBounds_toArray, List.set_cons_zero, List.set_cons_succ, i64_w, i32_w]
                          rfl
                        refine one_ (i := 12) (N := some 27) #[true, true, true, true, true, true, true, true, true, true, true, true, true, false, false, true, true, true, true, true, false, false, false, false] rfl rfl (one_of HT_.out (by kernel_rfl)) (by decide) (fun K hK => ?_)
                        refine goes_ Tryd.func40 (by kernel_rfl) rfl #[.agg #[.int .i64 1, .string ((rd_T60 l0 x4_1).f0), .int .i64 0, .slice A178_1 ((rd_T60 l0 x4_1).f1).length c178_1, .slice none 0 0]] (by rfl) rfl rfl (by (try simp only [List.map_toArray, List.map_cons, List.map_nil]); first | done | rfl | (simp only [List.length_drop, List.length_take]; rfl)) ?_
                        refine (spec_l1Text.calls 1 ((rd_T60 l0 x4_1).f0) 0 _ _ ((rd_T60 l0 x4_1).f1) _ _ ([] : List (S26)) t180 _ ?side1 ?side2 ?side3 ?side4 A9.out).mono ?_
                        (case side1 => repeat (first | exact (Kd.C_below HR179_1.out HB.out) | (with_reducible refine Kd.C_alloc ?_ _) | (with_reducible refine Kd.C_drewN ?_ _) | (with_reducible refine Kd.C_drew ?_)))
                        (case side2 => exact HC179_1.out)
                        (case side3 => exact Kd.C_nil _ _)
                        (case side4 => exact Nat.le_refl _)
                        rintro e w16 ⟨rfl, hb⟩
                        refine ⟨_, rfl, ?_⟩
                        have n0_ := Aside0.mk (below_step (by repeat (first | (with_reducible first | exact HB.out | apply below_alloc | apply pw_below_drewN | apply below_drew1) | exact HB.out)) hb)
                        clear HB
                        have HB := n0_
                        clear n0_
                        (try clear hb)
                        (try clear hb2)
                        (try clear hk)
                        (try clear hi)
                        refine hK.out _ _ ⟨((HB.out.cell (World.block_lt_of_cell? w _ hw178_0)).trans hw178_0), ((HB.out.cell (World.block_lt_of_cell? w _ hw178_1)).trans hw178_1), ((HB.out.cell (World.block_lt_of_cell? w _ hw178_2)).trans hw178_2), ((HB.out.cell (World.block_lt_of_cell? w _ hw179_0)).trans hw179_0), ((HB.out.cell (World.block_lt_of_cell? w _ hw179_1)).trans hw179_1), ((HB.out.cell (World.block_lt_of_cell? w _ hw179_2)).trans hw179_2), ((HB.out.cell (World.block_lt_of_cell? w _ hw181_0)).trans hw181_0), ((HB.out.cell (World.block_lt_of_cell? w _ hw181_1)).trans hw181_1), ((HB.out.cell (World.block_lt_of_cell? w _ hw181_2)).trans hw181_2)⟩ (fun hHeld => ?_)
                        clear hK K
                        refine norm_ (a' := ?_) ?_ ?_
                        rotate_left
                        · show Act.put _ (some 27) _ = _
                          simp only [Act.put, List.setIfInBounds_toArray, List.set_cons_zero, List.set_cons_succ, i64_w, i32_w]
                          rfl
                        refine pure_ (i := 13) (N := some 28) (v := ?_) (a' := ?_) #[true, true, true, true, true, true, true, true, true, true, true, true, true, true, false, true, true, true, true, true, false, false, false, false] rfl rfl (any_of HT_.out (by kernel_rfl)) (fun _ _ _ h => h) (Or.inl ⟨by rfl, ?_⟩) ?_ ?_
                        rotate_left
                        · intro w'
                          go_simp
                          with_reducible rfl
                        rotate_left
                        · simp only [Act.put, List.setIfInBounds_toArray, List.set_cons_zero, List.set_cons_succ, i64_w, i32_w]
                          rfl
                        refine pure_ (i := 14) (N := some 29) (v := ?_) (a' := ?_) #[true, true, true, true, true, true, true, true, true, true, true, true, true, true, true, true, true, true, true, true, false, false, false, false] rfl rfl (any_of HT_.out (by kernel_rfl)) (fun _ _ _ h => h) (Or.inl ⟨by rfl, ?_⟩) ?_ ?_
                        rotate_left
                        · intro w'
                          go_simp
                          with_reducible rfl
                        rotate_left
                        · simp only [Act.put, List.setIfInBounds_toArray, List.set_cons_zero, List.set_cons_succ, i64_w, i32_w]
                          rfl
                        refine one_ (i := 20) (N := some 35) #[true, true, true, true, true, true, true, true, true, true, true, true, true, true, true, true, true, true, true, true, true, false, false, false] rfl rfl (one_of HT_.out (by kernel_rfl)) (by decide) (fun K hK => ?_)
                        refine goes_ Tryd.func49 (by kernel_rfl) rfl #[.int .i64 ((rd_T60 l0 x4_1).f2)] (by rfl) rfl rfl (by (try simp only [List.map_toArray, List.map_cons, List.map_nil]); first | done | rfl | (simp only [List.length_drop, List.length_take]; rfl)) ?_
                        with_reducible refine (spec_l15Dec.calls kj1 ((rd_T60 l0 x4_1).f2) t182 _ A12.out).mono ?_
                        rintro e w17 ⟨rfl, hb⟩
                        refine ⟨_, rfl, ?_⟩
                        have n0_ := Aside0.mk (below_step (by repeat (first | (with_reducible first | exact HB.out | apply below_alloc | apply pw_below_drewN | apply below_drew1) | exact HB.out)) hb)
                        clear HB
                        have HB := n0_
                        clear n0_
                        (try clear hb)
                        (try clear hb2)
                        (try clear hk)
                        (try clear hi)
                        refine hK.out _ _ ⟨((HB.out.cell (World.block_lt_of_cell? w _ hw178_0)).trans hw178_0), ((HB.out.cell (World.block_lt_of_cell? w _ hw178_1)).trans hw178_1), ((HB.out.cell (World.block_lt_of_cell? w _ hw178_2)).trans hw178_2), ((HB.out.cell (World.block_lt_of_cell? w _ hw179_0)).trans hw179_0), ((HB.out.cell (World.block_lt_of_cell? w _ hw179_1)).trans hw179_1), ((HB.out.cell (World.block_lt_of_cell? w _ hw179_2)).trans hw179_2), ((HB.out.cell (World.block_lt_of_cell? w _ hw181_0)).trans hw181_0), ((HB.out.cell (World.block_lt_of_cell? w _ hw181_1)).trans hw181_1), ((HB.out.cell (World.block_lt_of_cell? w _ hw181_2)).trans hw181_2)⟩ (fun hHeld => ?_)
                        clear hK K
                        refine norm_ (a' := ?_) ?_ ?_
                        rotate_left
                        · show Act.put _ (some 35) _ = _
                          simp only [Act.put, List.setIfInBounds_toArray, List.set_cons_zero, List.set_cons_succ, i64_w, i32_w]
                          rfl
                        refine pure_ (i := 21) (N := some 36) (v := ?_) (a' := ?_) #[true, true, true, true, true, true, true, true, true, true, true, true, true, true, true, true, true, true, true, true, true, true, false, false] rfl rfl (any_of HT_.out (by kernel_rfl)) (fun _ _ _ h => h) (Or.inl ⟨by rfl, ?_⟩) ?_ ?_
                        rotate_left
                        · intro w'
                          go_simp
                          with_reducible rfl
                        rotate_left
                        · simp only [Act.put, List.setIfInBounds_toArray, List.set_cons_zero, List.set_cons_succ, i64_w, i32_w]
                          rfl
                        refine pure_ (i := 22) (N := some 37) (v := ?_) (a' := ?_) #[true, true, true, true, true, true, true, true, true, true, true, true, true, true, true, true, true, true, true, true, true, true, true, false] rfl rfl (any_of HT_.out (by kernel_rfl)) (fun _ _ _ h => h) (Or.inl ⟨by rfl, ?_⟩) ?_ ?_
                        rotate_left
                        · intro w'
                          go_simp
                          with_reducible rfl
                        rotate_left
                        · simp only [Act.put, List.setIfInBounds_toArray, List.set_cons_zero, List.set_cons_succ, i64_w, i32_w]
                          rfl
                        refine pure_ (i := 23) (N := some 3) (v := ?_) (a' := ?_) #[true, true, true, true, true, true, true, true, true, true, true, true, true, true, true, true, true, true, true, true, true, true, true, true] rfl rfl (any_of HT_.out (by kernel_rfl)) (fun _ _ _ h => h) (Or.inl ⟨by rfl, ?_⟩) ?_ ?_
                        rotate_left
                        · intro w'
                          go_simp
                          with_reducible rfl
                        rotate_left
                        · simp only [Act.put, List.setIfInBounds_toArray, List.set_cons_zero, List.set_cons_succ, i64_w, i32_w]
                          rfl
                        refine done_ (done_of HT_.out (by kernel_rfl)) ?_
                        try go_wp2
                        go_roundg kj1
                        case measure => have := HK1.out; have := HJ1.out; omega
                        case rel => exact ⟨((((x3_1 ++ t180) ++ (⟨#[32, 61, 32]⟩ : ByteArray)) ++ t182) ++ (⟨#[10]⟩ : ByteArray)), (wrap64 (x4_1 + 1)), (by first | rfl | (simp; done) | (simp [*]; done)), (by first | rfl | (simp; done) | (simp [*]; done)), H', ⟨by have := HK1.out; have := HJ1.out; omega⟩, ⟨by repeat (first | (with_reducible first | exact HB.out | apply below_alloc | apply pw_below_drewN | apply below_drew1) | exact HB.out)⟩⟩
                      · rw [if_neg c14] at H
                        exact absurd H (by simp)
                    · rw [if_neg c13] at H
                      exact absurd H (by simp)
                  · rw [if_neg c11] at H
                    exact absurd H (by simp)
                · rw [if_neg c10] at H
                  exact absurd H (by simp)
              · rw [if_neg c8] at H
                exact absurd H (by simp)
            · rw [if_neg c7] at H
              exact absurd H (by simp)
          · replace c6 := Bool.eq_false_iff.mpr c6
            subst c6
            have H1 : (some x3_1) = some r := by rw [if_neg (show ¬ (false = true) by decide)] at H; exact H
            clear H
            have H := H1
            clear H1
            obtain rfl := Option.some.inj H
            go_wp2
            go_ret
            exact ⟨by first | rfl | (simp [errW_none, errW_some] <;> rfl) | (simp [*, errW_none, errW_some] <;> rfl), by repeat (first | (with_reducible first | exact HB.out | apply below_alloc | apply pw_below_drewN | apply below_drew1) | exact HB.out)⟩

end Go.Proofs.YteeepenncddnjaaDoor.Q
end
section
namespace Go.Proofs.YteeepenncddnjaaDoor
open Go.RowKit Go.Proofs.YteeepenncddnjaaDoorW.PrintWords
set_option linter.unusedVariables false
set_option linter.unusedSimpArgs false
def lnT (b : Bd) : List UInt8 := nameT b.f0 b.f1 ++ (32 :: 61 :: 32 :: (Lib.itoa b.f2 ++ [10]))
def bindsT (l : List Bd) : List UInt8 := (l.map lnT).flatten
noncomputable def fmtB (l : List Bd) : ByteArray := if pB (BdsOk l) = true then B8 (bindsT l) else ⟨#[]⟩
theorem bindsT_next {l : List Bd} {i : Nat} (h : i < l.length) : bindsT (l.take (i + 1)) = bindsT (l.take i) ++ lnT l[i] := by
  rw [bindsT, bindsT, List.take_succ_eq_append_getElem h, List.map_append, List.flatten_append]
  simp only [List.map_cons, List.map_nil, List.flatten_cons, List.flatten_nil, List.append_nil]
theorem bdsOk_mem {l : List Bd} (h : BdsOk l) {i : Nat} (hi : i < l.length) : BdOk l[i] := (h.2 i hi).1
theorem lnT_len {b : Bd} (h : BdOk b) : (lnT b).length ≤ 117 := by
  have a := nameT_len h.1 h.2.1
  have c := itoa_len b.f2 (by have := h.2.2.1; omega) h.2.2.2
  simp [lnT]
  omega
theorem bindsT_len {l : List Bd} (h : BdsOk l) : ∀ i, i ≤ l.length → (bindsT (l.take i)).length ≤ 117 * i
  | 0, _ => by simp [bindsT]
  | i + 1, hi => by
    rw [bindsT_next (by omega), List.length_append]
    have := bindsT_len h i (by omega)
    have := lnT_len (bdsOk_mem h (show i < l.length by omega))
    omega
/-- A binding's name as_ a form. -/
abbrev nmF (b : Bd) : Fm := ⟨1, b.f0, 0, b.f1, []⟩
theorem nmF_ok {b : Bd} (h : BdOk b) : IsOk 40 (nmF b) ∧ (nmF b).size ≤ 400 :=
  ⟨(isOk1 (n := 39) (x := nmF b) rfl).2 ⟨h.1, rfl, h.2.1, rfl⟩, by rw [Fm.size_eq]; simp [sizes]⟩
theorem nmF_txt (b : Bd) : (nmF b).txt = nameT b.f0 b.f1 := by rw [Fm.txt_eq, if_neg (show ¬ ((1 : Int) = 2) by decide), if_pos rfl]
theorem lnT_B8 (p : List UInt8) (b : Bd) : B8 p ++ B8 (nmF b).txt ++ ⟨#[32, 61, 32]⟩ ++ B8 (Lib.itoa b.f2) ++ ⟨#[10]⟩ = B8 (p ++ lnT b) := by
  rw [nmF_txt, show (⟨#[32, 61, 32]⟩ : ByteArray) = B8 [32, 61, 32] from rfl, show (⟨#[10]⟩ : ByteArray) = B8 [10] from rfl, B8_append, B8_append, B8_append, B8_append, lnT]
  simp [List.append_assoc]
section
open Go.Proofs.YteeepenncddnjaaDoor.Q
theorem ev_formatBinds {l : List Bd} (hl : SmB l) : Ev (fun k => spec_FormatBinds.f k l) (fmtB l) := by
  simp only [spec_FormatBinds.f]
  have h0 := hl.1
  by_cases hv : BdsOk l
  · have hT : fmtB l = B8 (bindsT (l.take l.length)) := by rw [fmtB, if_pos (pB_iff.2 hv), List.take_length]
    obtain ⟨r, hp, hr⟩ := ev_loop (L := fun k (s : Int × ByteArray) => spec_FormatBinds.l0 k l s.2 s.1) (fun i s => s = ((i : Int), B8 (bindsT (l.take i)))) l.length (· = fmtB l) (by
      rintro i s hi rfl
      have hb := bdsOk_mem hv hi
      have hn := nmF_ok hb
      have hlen := bindsT_len hv i (by omega)
      have h60 := hv.1
      have e1 : (B8 (bindsT (l.take i))).size ≤ 7020 := by rw [B8_size]; omega
      have e2 : (B8 (nmF l[i]).txt).size ≤ 110 := by rw [B8_size, nmF_txt]; exact nameT_len hb.1 hb.2.1
      have e4 : (B8 (⟨1, l[i].f0, 0, l[i].f1, []⟩ : Fm).txt).size ≤ 110 := e2
      have e3 : (B8 (Lib.itoa l[i].f2)).size ≤ 3 := by rw [B8_size]; exact itoa_len _ (by have := hb.2.2.1; omega) hb.2.2.2
      have z3 : (⟨#[32, 61, 32]⟩ : ByteArray).size = 3 := rfl
      have z1 : (⟨#[10]⟩ : ByteArray).size = 1 := rfl
      refine ⟨((i + 1 : Nat), B8 (bindsT (l.take (i + 1)))), rfl, fun r hr => ?_⟩
      refine Ev.step (fun k => by rw [spec_FormatBinds.l0]) (Ev.pos (by simpa using hi) (Ev.bind (ev_bindsValid hl) (Ev.step (fun k => by rw [spec_FormatBinds.j1]) (Ev.pos (pB_iff.2 hv) (Ev.pos (by simp) (Ev.pos (by simpa using hi) ?_))))))
      rw [rdB hi]
      dsimp only
      refine Ev.bind (g := fun _ => _) (Ev.some (gIf_yes hn _)) (Ev.pos (by omega) (Ev.pos (by rw [ByteArray.size_append]; omega) (Ev.bind (ev_l15 _ (by have := hb.2.2.1; omega) hb.2.2.2) (Ev.pos (by rw [ByteArray.size_append, ByteArray.size_append, z3]; omega) (Ev.pos (by rw [ByteArray.size_append, ByteArray.size_append, ByteArray.size_append, z3]; omega) ?_)))))
      rw [wr1 _ (by omega)]
      rw [bindsT_next hi] at hr
      rw [lnT_B8]
      exact hr) (by
      rintro s rfl
      exact ⟨_, hT.symm, Ev.step (fun k => by rw [spec_FormatBinds.l0]) (Ev.neg (by simp) (Ev.step (fun k => by rw [spec_FormatBinds.j1]) (Ev.neg (by simp) (Ev.now _))))⟩) (0, ⟨#[]⟩) rfl
    subst hp
    exact hr
  · have hT : fmtB l = ⟨#[]⟩ := by rw [fmtB, if_neg (fun h => hv (pB_iff.1 h))]
    have hne : 0 < l.length := by
      rcases Nat.eq_zero_or_pos l.length with h | h
      · exact absurd (show BdsOk l from ⟨by omega, fun i hi => by omega⟩) hv
      · exact h
    rw [hT]
    refine Ev.step (fun k => by rw [spec_FormatBinds.l0]) (Ev.pos (by omega) (Ev.bind (ev_bindsValid hl) (Ev.step (fun k => by rw [spec_FormatBinds.j1]) (Ev.neg (by rw [← pB_no hv]; simp) (Ev.now _)))))
end
theorem specFormatB_any (l : List Bd) (A : Option Addr) (c : Nat) (w : World) (hr : kB.C w A l.length l) (hc : l.length ≤ c) (hs : SmB l) : Calls Tryd.prog 20 #[.slice A l.length c] w (Ret w (.string (fmtB l))) := by
  obtain ⟨k, hk⟩ := (ev_formatBinds hs).rounds
  exact Q.spec_FormatBinds.calls k A c l _ w hr hc hk
end Go.Proofs.YteeepenncddnjaaDoor
end
section
namespace Go.Proofs.YteeepenncddnjaaDoor.Q
open Go.RowKit Go.Proofs.YteeepenncddnjaaDoorW.PrintWords Go.Proofs.YteeepenncddnjaaDoorW.PrintLast Go.Proofs.YteeepenncddnjaaDoorW.PrintMore
attribute [local go_sem] max2_int min2_int max_two min_two max_three min_three max_four min_four   -- for this text's walks alone
set_option linter.unusedVariables false
set_option linter.unusedSimpArgs false

noncomputable def impl_nameForm.f (a0 : ByteArray) (l1 : List Int) : Option (Int × ByteArray × Int × List Int × (List (S26))) := (slices_Clone_int_int.f l1).bind fun t151 => (some (1, a0, 0, t151, ([] : List (S26))))
set_option maxHeartbeats 8000000 in
set_option maxRecDepth 100000 in
theorem impl_nameForm.calls (a0 : ByteArray) (A1 : Option Addr) (c1 : Nat) (l1 : List Int) (r1 : Int) (r2 : ByteArray) (r3 : Int) (r4 : List Int) (r5 : List (S26)) (w : World) (hr1 : Kd.C (Kd.int .i64) w A1 l1.length l1) (hc1 : l1.length ≤ c1) (h : impl_nameForm.f a0 l1 = some (r1, r2, r3, r4, r5)) :
    Calls Tryd.prog 42 #[.string a0, .slice A1 l1.length c1] w fun e w' => ∃ v3_ v4_ : Value, e = .returned (.agg #[.int .i64 r1, .string r2, .int .i64 r3, v3_, v4_]) ∧ Kd.R (Kd.int .i64) 3 w' w.heap.size (fun _ => True) v3_ r4 ∧ Kd.R k26 26 w' w.heap.size (fun k_ => some k_ ≠ (v3_ : Value).ownBlock) v4_ r5 ∧ Below w.heap.size w w' := by
  have hu26 := Tryd.underlying26
  have HR1 := Aside0.mk hr1
  have HC1 := Aside0.mk hc1
  clear hr1 hc1
  have HB := Aside0.mk (Below.refl w.heap.size w)
  have H : ((slices_Clone_int_int.f l1).bind fun t151 => (some (1, a0, 0, t151, ([] : List (S26))))) = some (r1, r2, r3, r4, r5) := h
  clear h
  replace H := Option.bind_eq_some_iff.mp H
  obtain ⟨t151, A30, H⟩ := H
  replace H : (some (1, a0, 0, t151, ([] : List (S26)))) = some (r1, r2, r3, r4, r5) := H
  have A3 := Aside0.mk A30
  clear A30
  simp only [Option.some.injEq, Prod.mk.injEq] at H
  obtain ⟨rfl, rfl, rfl, rfl, rfl⟩ := H
  go_enter Tryd.func42, Tryd.ntmps42
  go_wp2_with (first | ((with_reducible refine gate_dst (N := 4) rfl ?_); refine box_event ?hg (N := 4) ?hd (cs := #[.int .i64 0, .string (⟨#[]⟩ : ByteArray), .int .i64 0, .slice none 0 0, .slice none 0 0]) (t := 26) ?hr ?_; (case hd => rfl); (case hg => rfl); (case hr => first | (go_simp; done) | (go_simp; rfl)); intro gb150 hg w4 hbox hb; have n0_ := Aside0.mk (below_step (by repeat (first | (with_reducible first | exact HB.out | apply below_alloc | apply pw_below_drewN | apply below_drew1) | exact HB.out)) hb); have n1_ := Aside0.mk (hbox); have n2_ := Aside0.mk ((by rw [hg]; exact (below_size (by repeat (first | (with_reducible first | exact HB.out | apply below_alloc | apply pw_below_drewN | apply below_drew1) | exact HB.out))) : w.heap.size ≤ gb150)); have n3_ := Aside0.mk ((by rw [hg]; exact (below_size (by repeat (first | (with_reducible first | exact HB.out | apply below_alloc | apply pw_below_drewN | apply below_drew1) | exact HB.out))) : w.heap.size ≤ gb150)); clear HB; have HB := n0_; have BK150 := n1_; have GW150 := n2_; have GE150 := n3_; clear n0_ n1_ n2_ n3_; clear hb hbox hg) | ((with_reducible refine gate_callee (f := 70) rfl ?_); refine goesL_ (some 7) rfl rfl Tryd.func70 (by kernel_rfl) rfl #[.slice A1 l1.length c1] rfl (by (try simp only [List.map_toArray, List.map_cons, List.map_nil]); first | done | rfl | (simp only [List.length_drop, List.length_take]; rfl)) ?_; (with_reducible refine (slices_Clone_int_int.calls _ _ l1 t151 _ ?side1 ?side2 A3.out).mono ?_); (case side1 => repeat (first | exact (Kd.C_below HR1.out HB.out) | (with_reducible refine Kd.C_alloc ?_ _) | (with_reducible refine Kd.C_drewN ?_ _) | (with_reducible refine Kd.C_drew ?_))); (case side2 => exact HC1.out); rintro e w5 ⟨v152, rfl, ho0, hb⟩; refine ⟨_, rfl, ?_⟩; have n0_ := Aside0.mk (Kd.R_lower ho0 (below_size (by repeat (first | (with_reducible first | exact HB.out | apply below_alloc | apply pw_below_drewN | apply below_drew1 | refine below_set ?_ GE150.out) | exact HB.out)))); have n1_ := Aside0.mk (blk_below (g := gb150) (o := .cells #[.int .i64 0, .string (⟨#[]⟩ : ByteArray), .int .i64 0, .slice none 0 0, .slice none 0 0] 26 (0, 0)) (by (with_reducible repeat (first | refine blk_drewN ?_ _ | refine blk_drew ?_ | refine blk_alloc ?_ _)); exact BK150.out) hb); have n2_ := Aside0.mk (below_step (by repeat (first | (with_reducible first | exact HB.out | apply below_alloc | apply pw_below_drewN | apply below_drew1 | refine below_set ?_ GE150.out) | exact HB.out)) hb); clear BK150; clear HB; have HO153 := n0_; have BK150 := n1_; have HB := n2_; clear n0_ n1_ n2_; (try clear hb); (try clear hb2); (try clear hk); (try clear hi); (try clear ho0); obtain ⟨Ao6, co6, eo6⟩ := Kd.R_slice HO153.out; subst eo6; have hcz7_0 : w5.cell? ⟨gb150, 0, none⟩ = some (.int .i64 0) := (blk_cell BK150.out 0).trans rfl; have hcz7_1 : w5.cell? ⟨gb150, 1, none⟩ = some (.string (⟨#[]⟩ : ByteArray)) := (blk_cell BK150.out 1).trans rfl; have hcz7_2 : w5.cell? ⟨gb150, 2, none⟩ = some (.int .i64 0) := (blk_cell BK150.out 2).trans rfl; have hcz7_3 : w5.cell? ⟨gb150, 3, none⟩ = some (.slice none 0 0) := (blk_cell BK150.out 3).trans rfl; have hcz7_4 : w5.cell? ⟨gb150, 4, none⟩ = some (.slice none 0 0) := (blk_cell BK150.out 4).trans rfl; have hfz7_0 := blk_frozen BK150.out 0; have hfz7_1 := blk_frozen BK150.out 1; have hfz7_2 := blk_frozen BK150.out 2; have hfz7_3 := blk_frozen BK150.out 3; have hfz7_4 := blk_frozen BK150.out 4))
  refine bodyPost_ret (results_cell_row rfl _ _ gb150 26 #[.int .i64 1, .string a0, .int .i64 0, .slice Ao6 t151.length co6, .slice none 0 0] (0, 0) _ rfl (by (with_reducible repeat (first | refine blk_drewN ?_ _ | refine blk_drew ?_ | refine blk_alloc ?_ _)); refine blk_put (cs := #[.int .i64 1, .string a0, .int .i64 0, .slice Ao6 t151.length co6, .slice none 0 0]) ?_ 4 _ rfl; (with_reducible repeat (first | refine blk_drewN ?_ _ | refine blk_drew ?_ | refine blk_alloc ?_ _)); refine blk_put (cs := #[.int .i64 1, .string a0, .int .i64 0, .slice none 0 0, .slice none 0 0]) ?_ 3 _ rfl; (with_reducible repeat (first | refine blk_drewN ?_ _ | refine blk_drew ?_ | refine blk_alloc ?_ _)); refine blk_put (cs := #[.int .i64 1, .string a0, .int .i64 0, .slice none 0 0, .slice none 0 0]) ?_ 2 _ rfl; (with_reducible repeat (first | refine blk_drewN ?_ _ | refine blk_drew ?_ | refine blk_alloc ?_ _)); refine blk_put (cs := #[.int .i64 1, .string (⟨#[]⟩ : ByteArray), .int .i64 0, .slice none 0 0, .slice none 0 0]) ?_ 1 _ rfl; (with_reducible repeat (first | refine blk_drewN ?_ _ | refine blk_drew ?_ | refine blk_alloc ?_ _)); refine blk_put (cs := #[.int .i64 0, .string (⟨#[]⟩ : ByteArray), .int .i64 0, .slice none 0 0, .slice none 0 0]) ?_ 0 _ rfl; (with_reducible repeat (first | refine blk_drewN ?_ _ | refine blk_drew ?_ | refine blk_alloc ?_ _)); exact BK150.out) Tryd.underlying26 rfl (by kernel_rfl)) rfl ?_
  exact ⟨_, _, by first | rfl | (simp [errW_none, errW_some] <;> rfl) | (simp [*, errW_none, errW_some] <;> rfl), by (with_reducible repeat (first | apply Kd.R_alloc | apply Kd.R_drewN | apply Kd.R_drew)); exact Kd.R_mono (Kd.R_far (p := ⟨gb150, 4, none⟩) (Kd.R_far (p := ⟨gb150, 3, none⟩) (Kd.R_far (p := ⟨gb150, 2, none⟩) (Kd.R_far (p := ⟨gb150, 1, none⟩) (Kd.R_far (p := ⟨gb150, 0, none⟩) (Kd.R_types HO153.out BK150.out (by decide)) (fun _ hk => hk.2) (.int .i64 1)) (fun _ hk => hk.2) (.string a0)) (fun _ hk => hk.2) (.int .i64 0)) (fun _ hk => hk.2) (.slice Ao6 t151.length co6)) (fun _ hk => hk.2) (.slice none 0 0)) (fun _ hk => trivial), by first | exact Kd.R_nil _ _ _ _ _ | exact Kd.N_nil _ _ _ _ _ | exact Kd.V_nil _ _ _ _ _ | exact Kd.Q_nil _ _ _ _ _ | exact Kd.S_nil _ _ _ _ _, by repeat (first | (with_reducible first | exact HB.out | apply below_alloc | apply pw_below_drewN | apply below_drew1 | refine below_set ?_ GE150.out) | exact HB.out)⟩

end Go.Proofs.YteeepenncddnjaaDoor.Q
end
section
namespace Go.Proofs.YteeepenncddnjaaDoor
open Go.RowKit Go.Proofs.YteeepenncddnjaaDoorW.PrintWords Go.Proofs.YteeepenncddnjaaDoorW.PrintLast Go.Proofs.YteeepenncddnjaaDoorW.PrintMore
set_option linter.unusedVariables false
set_option linter.unusedSimpArgs false
theorem nameForm_any (b : Bd) (A : Option Addr) (c : Nat) (w : World) (hi : BdIn w b A c) (hl : b.f1.length ≤ 24) :
    Calls Tryd.prog 42 #[.string b.f0, .slice A b.f1.length c] w (fun e w' => ∃ A3 c3 A4 c4, e = .returned (.agg #[.int .i64 1, .string b.f0, .int .i64 0, .slice A3 b.f1.length c3, .slice A4 0 c4]) ∧ FmIn w' (nmF b) A3 c3 A4 c4 ∧ Below w.heap.size w w') := by
  refine (Q.impl_nameForm.calls b.f0 A c b.f1 1 b.f0 0 b.f1 [] w hi.g1 hi.l1 ?_).mono ?_
  · rw [Q.impl_nameForm.f, Q.slices_Clone_int_int.f, gIf_yes (by omega)]; rfl
  · rintro e w' ⟨v3, v4, rfl, h3, h4, hb⟩
    obtain ⟨A3, c3, rfl, hc3, g3⟩ := Kd.R_reads h3
    obtain ⟨A4, c4, rfl, hc4, g4⟩ := Kd.R_reads h4
    exact ⟨A3, c3, A4, c4, rfl, ⟨hc3, g3, hc4, g4⟩, hb⟩
theorem fText (b : Bd) (hok : BdOk b) (A3 : Option Addr) (c3 : Nat) (A4 : Option Addr) (c4 : Nat) (w : World) (hin : FmIn w (nmF b) A3 c3 A4 c4) (htab : TabP w) :
    Calls Tryd.prog 37 #[.agg #[.int .i64 1, .string b.f0, .int .i64 0, .slice A3 b.f1.length c3, .slice A4 0 c4]] w (Ret w (.string (B8 (nmF b).txt))) :=
  formText_any 40 (nmF b) A3 c3 A4 c4 w hin (nmF_ok hok).1 (nmF_ok hok).2 htab
theorem keep3 {w1 w2 : World} (hb : Below w1.heap.size w1 w2) {a0 a1 a2 : Addr} {v0 v1 v2 : Value} (h : w1.cell? a0 = some v0 ∧ w1.cell? a1 = some v1 ∧ w1.cell? a2 = some v2) : w2.cell? a0 = some v0 ∧ w2.cell? a1 = some v1 ∧ w2.cell? a2 = some v2 :=
  ⟨ck0 hb h.1, ck0 hb h.2.1, ck0 hb h.2.2⟩
set_option maxHeartbeats 4000000 in
set_option maxRecDepth 100000 in
theorem implFormatB_any (l : List Bd) (A : Option Addr) (c : Nat) (w : World) (hr : kB.C w A l.length l) (hc : l.length ≤ c) (hs : SmB l) (htab : TabP w) :
    Calls Tryd.prog 18 #[.slice A l.length c] w (Ret w (.string (fmtB l))) := by
  have hmax := hr.2.1
  have HR := Lib.hid hr
  have HTB := Lib.hid (fun W (hb : Below w.heap.size w W) => htab.below hb)
  have HC := Lib.hid (implBinds_any l A c w hr hc (fun b hb => by have := (hs.2 b hb).1; omega))
  clear hr hs htab
  by_cases hv : BdsOk l
  rotate_left
  · have HT := Lib.hid (show fmtB l = ⟨#[]⟩ by rw [fmtB, if_neg (fun h => hv (pB_iff.1 h))])
    rw [← pB_no hv] at HC
    clear hv
    go_enter Tryd.func18, Tryd.ntmps18
    go_wp2_with fail
    refine HC.out.mono ?_
    rintro e w1 ⟨rfl, hb⟩
    have HB := Lib.hid hb
    clear hb
    go_wp2_with fail
    go_ret
    exact ⟨by rw [HT.out]; rfl, HB.out⟩
  have HT := Lib.hid (show fmtB l = B8 (bindsT l) by rw [fmtB, if_pos (pB_iff.2 hv)])
  rw [← pB_yes hv] at HC
  have h60 := hv.1
  have HV := Lib.hid hv
  clear hv
  go_enter Tryd.func18, Tryd.ntmps18
  go_wp2_with fail
  refine HC.out.mono ?_
  rintro e w1 ⟨rfl, hb⟩
  have HB := Lib.hid hb
  clear hb
  go_wp2_with fail
  go_loopg [3, 5, 12] l.length (fun kq v3 v5 v12 w' => ∃ (i : Nat) (acc : ByteArray), i ≤ l.length ∧ l.length - i ≤ kq ∧ v12 = .int .i64 i ∧ v3 = .string acc ∧ acc.size ≤ 8000 ∧ Aside0 (acc = B8 (bindsT (l.take i))) ∧ Aside0 (Below w.heap.size w w'))
  case atStart => exact ⟨0, _, Nat.zero_le _, by omega, rfl, rfl, by show (ByteArray.mk #[]).size ≤ 8000; have : (ByteArray.mk #[]).size = 0 := rfl; omega, ⟨rfl⟩, ⟨HB.out⟩⟩
  case round =>
    obtain ⟨i, acc, hi, hg, rfl, rfl, ha, HA, HW⟩ := hrel
    by_cases hlt : i < l.length
    · obtain ⟨ad, A1, c1, e, g0, g1, g2, hk⟩ := bd_at HR.out i hlt
      subst e
      replace g0 := ck0 HW.out g0
      replace g1 := ck0 HW.out g1
      replace g2 := ck0 HW.out g2
      have hok := bdsOk_mem HV.out hlt
      have hnx := bindsT_next hlt
      have hln := bindsT_len HV.out (i + 1) (by omega)
      obtain ⟨b, hbd⟩ : ∃ b, l[i] = b := ⟨_, rfl⟩
      rw [hbd] at g0 g1 g2 hk hok hnx
      clear hbd
      have e2 : (B8 (nmF b).txt).size ≤ 110 := by rw [B8_size, nmF_txt]; exact nameT_len hok.1 hok.2.1
      have e3 : (B8 (Lib.itoa b.f2)).size ≤ 3 := by rw [B8_size]; exact itoa_len _ (by have := hok.2.2.1; omega) hok.2.2.2
      have HE := Lib.hid (show acc ++ (B8 (nmF b).txt ++ ⟨#[32, 61, 32]⟩ ++ B8 (Lib.itoa b.f2) ++ ⟨#[10]⟩) = B8 (bindsT (l.take (i + 1))) by
        rw [HA.out, hnx, ← lnT_B8]; simp only [ByteArray.append_assoc])
      have HL := Lib.hid (show (bindsT (l.take (i + 1))).length ≤ 8000 by omega)
      have hbx := below_new wr (.cells #[.string b.f0, .slice A1 b.f1.length c1, .int .i64 b.f2] 60)
      have hkb := blk_new wr (.cells #[.string b.f0, .slice A1 b.f1.length c1, .int .i64 b.f2] 60)
      have HX := Lib.hid (And.intro (below_step HW.out hbx) hkb)
      have HK := Lib.hid (fun W (hb : Below w.heap.size w W) => nameForm_any b A1 c1 W (hk.below hb) (by have := hok.2.1.1; omega))
      have HI := Lib.hid (fun W (hb : Below w.heap.size w W) => itoa_any b.f2 W (by have := hok.2.2.1; omega) (by have := hok.2.2.2; omega) (HTB.out W hb))
      have HO := Lib.hid hok
      clear hk hok hnx hln hbx
      obtain ⟨p0, p1, p2⟩ := bd_cells hkb
      clear hkb
      rw [show (⟨(Lib.itoa b.f2).toArray⟩ : ByteArray) = B8 (Lib.itoa b.f2) from rfl] at HI
      generalize B8 (Lib.itoa b.f2) = D at e3 HE HI
      have HF := Lib.hid (fun A3 c3 A4 c4 W hin (hb : Below w.heap.size w W) => fText b HO.out A3 c3 A4 c4 W hin (HTB.out W hb))
      generalize B8 (nmF b).txt = T at e2 HE HF
      have f1 : (9223372036854775807 < T.size + 3) = False := eq_false (by omega)
      have f2 : (9223372036854775807 < T.size + 3 + D.size) = False := eq_false (by omega)
      have f3 : (9223372036854775807 < T.size + 3 + D.size + 1) = False := eq_false (by omega)
      have f4 : (9223372036854775807 < acc.size + (T.size + 3 + D.size + 1)) = False := eq_false (by omega)
      go_wp2_with fail
      clear g0 g1 g2
      go_region_held3 (fun W => W.cell? ⟨wr.heap.size, 0, none⟩ = some (.string b.f0) ∧ W.cell? ⟨wr.heap.size, 1, none⟩ = some (.slice A1 b.f1.length c1) ∧ W.cell? ⟨wr.heap.size, 2, none⟩ = some (.int .i64 b.f2)) (first | go_keep | exact keep3 (below_step (Below.refl _ _).drew hba) ⟨p0, p1, p2⟩ | exact keep3 (below_step (below_step (Below.refl _ _).drew hba) hbb) ⟨p0, p1, p2⟩ | exact keep3 (below_step (below_step (below_step (Below.refl _ _).drew hba) hbb) hbc) ⟨p0, p1, p2⟩)
        ((first
          | (go_at_call 42; refine (HK.out _ (below_step HX.out.1 (Below.refl _ _).drew)).mono ?_; rintro e wa ⟨E3, m3, E4, m4, rfl, hfi, hba⟩)
          | (go_at_call 37; refine (HF.out E3 m3 E4 m4 _ hfi (below_step HX.out.1 (below_step (Below.refl _ _).drew hba))).mono ?_; rintro e wb ⟨rfl, hbb⟩)
          | (go_at_call 43; refine (HI.out _ (below_step HX.out.1 (below_step (below_step (Below.refl _ _).drew hba) hbb))).mono ?_; rintro e wc ⟨rfl, hbc⟩)))
      have HB2 := Lib.hid (below_step HX.out.1 (below_step (below_step (below_step (Below.refl _ _).drew hba) hbb) hbc))
      clear hba hbb hbc hfi p0 p1 p2
      go_wp2_with fail
      go_roundg (l.length - (i + 1))
      case measure => omega
      case rel => exact ⟨i + 1, _, by omega, Nat.le_refl _, by go_num, rfl, by rw [HE.out, B8_size]; exact HL.out, ⟨HE.out⟩, ⟨HB2.out⟩⟩
    · obtain rfl : i = l.length := by omega
      have HE := Lib.hid (show acc = fmtB l by rw [HA.out, HT.out, List.take_length])
      go_wp2_with fail
      go_ret
      exact ⟨by rw [← HE.out]; rfl, HW.out⟩
end Go.Proofs.YteeepenncddnjaaDoor
end
