/- Words for the laws' proofs (part 2): contracts of functions, and plain lemmas. -/
import Derived.Deep.RegionHeld3
import Derived.Ground.Names2Prog
import Derived.IntWalk
import Derived.Laws.IdiomStrings
import Derived.Lib.LazyBuf
import Derived.Lib.SliceRun
import Derived.Shelf.Abstract
import Derived.Shelf.Slices.Empties
import Derived.Shelf.Slices.SearchI
import Derived.Shelf.Spec.SlicesInsertGrow
import Derived.Test.YtcbomlmlindjdaaKe1
section
namespace Go.Proofs.Ytcbomlmlindjdaa
open Go.RowKit Go.Proofs.YtcbomlmlindjdaaW.PrintWords Go.Proofs.YtcbomlmlindjdaaW.PrintLast Go.Proofs.YtcbomlmlindjdaaW.PrintMore
set_option linter.unusedVariables false
set_option linter.unusedSimpArgs false
noncomputable def pB (p : Prop) : Bool := @decide p (Classical.propDecidable _)
theorem pB_iff {p : Prop} : pB p = true ↔ p := by unfold pB; exact @decide_eq_true_iff _ (Classical.propDecidable _)
theorem pB_yes {p : Prop} (h : p) : true = pB p := (pB_iff.2 h).symm
theorem pB_no {p : Prop} (h : ¬ p) : false = pB p := by
  cases e : pB p with
  | true => exact absurd (pB_iff.1 e) h
  | false => rfl
theorem pB_of {b : Bool} {p : Prop} (h : b = true ↔ p) : b = pB p := by
  cases b with
  | true => exact pB_yes (h.1 rfl)
  | false => exact pB_no (fun hp => by have := h.2 hp; cases this)
def ScAt (xs : List Int) (i : Nat) : Prop := ∀ h : i < xs.length, 1 ≤ xs[i] ∧ xs[i] ≤ 99 ∧ ∀ (j : Nat) (hj : j < xs.length), j + 1 = i → xs[j] < xs[i]
def ScOk (xs : List Int) : Prop := xs.length ≤ 24 ∧ ∀ i, ScAt xs i
set_option maxHeartbeats 2000000 in
theorem l1Scopes_any (xs : List Int) (A : Option Addr) (c : Nat) (w : World) (hr : kI.C w A xs.length xs) (hc : xs.length ≤ c) :
    Calls Try.prog 49 #[.slice A xs.length c] w (Ret w (.bool (pB (ScOk xs)))) := by
  have hmax := hr.2.1
  go_enter Try.func49, Try.ntmps49
  go_wp2_with fail
  go_loopg [3] xs.length (fun kq v3 w' => ∃ i : Nat, i ≤ xs.length ∧ xs.length - i ≤ kq ∧ v3 = .int .i64 i ∧ Aside0 (i ≤ 25) ∧ Aside0 (∀ j, j < i → ScAt xs j) ∧ Aside0 (Below w.heap.size w w'))
  case atStart => exact ⟨0, Nat.zero_le _, by omega, rfl, ⟨by omega⟩, ⟨fun j h => absurd h (by omega)⟩, ⟨Below.refl _ _⟩⟩
  case round =>
    obtain ⟨i, hi, hg, rfl, H25, HN, HW⟩ := hrel
    by_cases hlt : i < xs.length
    · have t1 : decide ((i : Int) < (xs.length : Int)) = true := decide_eq_true (by omega)
      by_cases h24 : i ≤ 24
      · have t2 : decide ((i : Int) ≤ 24) = true := decide_eq_true (by omega)
        obtain ⟨ad, e, hcell⟩ := int_at (Kd.C_below hr HW.out) i hlt
        subst e
        have p1 : (0 : Int) ≤ (i : Int) := by omega
        have p2 : (i : Int) < (xs.length : Int) := by omega
        by_cases ha : xs[i] < 1
        · have a1 : decide (xs[i] < 1) = true := decide_eq_true ha
          have HA := Lib.hid ha
          clear ha
          go_wp2_with fail
          go_quiet (fail)
          go_wp2_with fail
          go_ret
          refine ⟨ret_b (pB_no (fun h => ?_)), pw_below_drewN HW.out _⟩
          have := (h.2 i hlt).1
          have := HA.out
          omega
        · have a1 : decide (xs[i] < 1) = false := decide_eq_false ha
          have HA := Lib.hid ha
          clear ha
          by_cases hb : xs[i] > 99
          · have a2 : decide (xs[i] > 99) = true := decide_eq_true hb
            have a3 : decide (99 < xs[i]) = true := decide_eq_true hb
            have HB := Lib.hid hb
            clear hb
            go_wp2_with fail
            go_quiet (fail)
            go_wp2_with fail
            go_ret
            refine ⟨ret_b (pB_no (fun h => ?_)), pw_below_drewN HW.out _⟩
            have := (h.2 i hlt).2.1
            have := HB.out
            omega
          · have a2 : decide (xs[i] > 99) = false := decide_eq_false hb
            have a3 : decide (99 < xs[i]) = false := decide_eq_false hb
            have HB := Lib.hid hb
            clear hb
            by_cases hz : i = 0
            · have z1 : decide ((i : Int) > 0) = false := decide_eq_false (by omega)
              have z2 : decide ((0 : Int) < (i : Int)) = false := decide_eq_false (by omega)
              have z3 : decide (0 < i) = false := decide_eq_false (by omega)
              have HZ := Lib.hid hz
              clear hz
              go_wp2_with fail
              go_quiet (fail)
              go_wp2_with fail
              go_roundg (xs.length - (i + 1))
              case measure => omega
              case rel =>
                refine ⟨i + 1, by omega, Nat.le_refl _, by go_num, ⟨by omega⟩, ⟨fun j hj => ?_⟩, ⟨pw_below_drewN HW.out _⟩⟩
                have h1 := HA.out
                have h2 := HB.out
                have h3 := HZ.out
                obtain rfl : j = i := by omega
                exact fun _ => ⟨by omega, by omega, fun j hj he => absurd he (by omega)⟩
            · obtain ⟨j, hji⟩ : ∃ j, i = j + 1 := ⟨i - 1, by omega⟩
              have hj : j < xs.length := by omega
              obtain ⟨ad3, e3, hcell3⟩ := int_at (Kd.C_below hr HW.out) j hj
              obtain rfl : ad = ad3 := by cases e3; rfl
              have z1 : decide ((i : Int) > 0) = true := decide_eq_true (by omega)
              have z2 : decide ((0 : Int) < (i : Int)) = true := decide_eq_true (by omega)
              have z3 : decide (0 < i) = true := decide_eq_true (by omega)
              have u1 : IntKind.i64.wrap ((i : Int) - 1) = (j : Int) := by rw [show ((i : Int) - 1) = (j : Int) from by omega]; exact IntWalk.i64_in _ (by omega)
              have u2 : (0 : Int) ≤ (j : Int) := by omega
              have u3 : (j : Int) < (xs.length : Int) := by omega
              have HJ := Lib.hid hji
              by_cases hle : xs[i] ≤ xs[j]
              · have c1 : decide (xs[i] ≤ xs[j]) = true := decide_eq_true hle
                have HL := Lib.hid hle
                clear hle hz hji
                go_wp2_with fail
                go_quiet (fail)
                go_wp2_with fail
                go_ret
                refine ⟨ret_b (pB_no (fun h => ?_)), pw_below_drewN HW.out _⟩
                have := (h.2 i hlt).2.2 j hj HJ.out.symm
                have := HL.out
                omega
              · have c1 : decide (xs[i] ≤ xs[j]) = false := decide_eq_false hle
                have HL := Lib.hid hle
                clear hle hz hji
                go_wp2_with fail
                go_quiet (fail)
                go_wp2_with fail
                go_roundg (xs.length - (i + 1))
                case measure => omega
                case rel =>
                  refine ⟨i + 1, by omega, Nat.le_refl _, by go_num, ⟨by omega⟩, ⟨fun q hq => ?_⟩, ⟨pw_below_drewN HW.out _⟩⟩
                  rcases Nat.lt_or_ge q i with h | h
                  · exact HN.out q h
                  · obtain rfl : q = i := by omega
                    have h1 := HA.out
                    have h2 := HB.out
                    have h3 := HL.out
                    have h4 := HJ.out
                    refine fun _ => ⟨by omega, by omega, fun p hp he => ?_⟩
                    obtain rfl : p = j := by omega
                    omega
      · have t2 : decide ((i : Int) ≤ 24) = false := decide_eq_false (by omega)
        have t3 : decide ((xs.length : Int) ≤ 24) = false := decide_eq_false (by omega)
        go_wp2_with fail
        go_ret
        refine ⟨ret_b (pB_no (fun h => ?_)), HW.out⟩
        have := h.1
        omega
    · obtain rfl : i = xs.length := by omega
      have t1 : decide ((xs.length : Int) < (xs.length : Int)) = false := decide_eq_false (by omega)
      by_cases h24 : xs.length ≤ 24
      · have t3 : decide ((xs.length : Int) ≤ 24) = true := decide_eq_true (by omega)
        go_wp2_with fail
        go_ret
        exact ⟨ret_b (pB_yes ⟨h24, fun i h => HN.out i h h⟩), HW.out⟩
      · have t3 : decide ((xs.length : Int) ≤ 24) = false := decide_eq_false (by omega)
        go_wp2_with fail
        go_ret
        exact ⟨ret_b (pB_no (fun h => h24 h.1)), HW.out⟩
set_option maxHeartbeats 2000000 in
theorem scopesOk_any (xs : List Int) (A : Option Addr) (c : Nat) (w : World) (hr : kI.C w A xs.length xs) (hc : xs.length ≤ c) :
    Calls Try.prog 43 #[.slice A xs.length c] w (Ret w (.bool (pB (ScOk xs)))) := by
  have hmax := hr.2.1
  go_enter Try.func43, Try.ntmps43
  go_wp2_with fail
  go_loopg [3, 4, 7] xs.length (fun kq v3 v4 v7 w' => ∃ i : Nat, i ≤ xs.length ∧ xs.length - i ≤ kq ∧ v7 = .int .i64 i ∧ Aside0 (∀ j, j < i → ScAt xs j) ∧ Aside0 (Below w.heap.size w w'))
  case atStart => exact ⟨0, Nat.zero_le _, by omega, rfl, ⟨fun j h => absurd h (by omega)⟩, ⟨Below.refl _ _⟩⟩
  case round =>
    obtain ⟨i, hi, hg, rfl, HN, HW⟩ := hrel
    by_cases hlt : i < xs.length
    · obtain ⟨ad, e, hcell⟩ := int_at (Kd.C_below hr HW.out) i hlt
      subst e
      have HC := Lib.hid (within_any xs[i] 1 99 wr)
      go_wp2_with fail
      refine HC.out.mono ?_
      rintro e w1 ⟨rfl, hb1⟩
      have hW1 := below_step HW.out hb1
      by_cases ha : 1 ≤ xs[i] ∧ xs[i] ≤ 99
      · rw [decide_eq_true ha]
        have HA := Lib.hid ha
        clear ha
        by_cases hz : i = 0
        · have z1 : decide ((i : Int) > 0) = false := decide_eq_false (by omega)
          have z2 : decide ((0 : Int) < (i : Int)) = false := decide_eq_false (by omega)
          have z3 : decide (0 < i) = false := decide_eq_false (by omega)
          have HZ := Lib.hid hz
          have HW1 := Lib.hid hW1
          clear hz hW1 hb1
          go_wp2_with fail
          go_roundg (xs.length - (i + 1))
          case measure => omega
          case rel =>
            refine ⟨i + 1, by omega, Nat.le_refl _, by go_num, ⟨fun q hq => ?_⟩, ⟨HW1.out⟩⟩
            have h1 := HA.out
            have h3 := HZ.out
            obtain rfl : q = i := by omega
            exact fun _ => ⟨h1.1, h1.2, fun j hj he => absurd he (by omega)⟩
        · obtain ⟨j, hji⟩ : ∃ j, i = j + 1 := ⟨i - 1, by omega⟩
          have hj : j < xs.length := by omega
          obtain ⟨ad3, e3, hcell3⟩ := int_at (Kd.C_below hr hW1) j hj
          obtain rfl : ad = ad3 := by cases e3; rfl
          have z1 : decide ((i : Int) > 0) = true := decide_eq_true (by omega)
          have z2 : decide ((0 : Int) < (i : Int)) = true := decide_eq_true (by omega)
          have z3 : decide (0 < i) = true := decide_eq_true (by omega)
          have u1 : IntKind.i64.wrap ((i : Int) - 1) = (j : Int) := by rw [show ((i : Int) - 1) = (j : Int) from by omega]; exact IntWalk.i64_in _ (by omega)
          have u2 : (0 : Int) ≤ (j : Int) := by omega
          have u3 : (j : Int) < (xs.length : Int) := by omega
          have u4 : (i : Int) - 1 = (j : Int) := by omega
          have HJ := Lib.hid hji
          have HW1 := Lib.hid hW1
          by_cases hle : xs[i] ≤ xs[j]
          · have c1 : decide (xs[j] ≥ xs[i]) = true := decide_eq_true hle
            have c2 : decide (xs[i] ≤ xs[j]) = true := decide_eq_true hle
            have HL := Lib.hid hle
            clear hle hz hji hW1 hb1
            go_wp2_with fail
            go_ret
            refine ⟨ret_b (pB_no (fun h => ?_)), HW1.out⟩
            have := (h.2 i hlt).2.2 j hj HJ.out.symm
            have := HL.out
            omega
          · have c1 : decide (xs[j] ≥ xs[i]) = false := decide_eq_false hle
            have c2 : decide (xs[i] ≤ xs[j]) = false := decide_eq_false hle
            have HL := Lib.hid hle
            clear hle hz hji hW1 hb1
            go_wp2_with fail
            go_roundg (xs.length - (i + 1))
            case measure => omega
            case rel =>
              refine ⟨i + 1, by omega, Nat.le_refl _, by go_num, ⟨fun q hq => ?_⟩, ⟨HW1.out⟩⟩
              rcases Nat.lt_or_ge q i with h | h
              · exact HN.out q h
              · obtain rfl : q = i := by omega
                have h1 := HA.out
                have h3 := HL.out
                have h4 := HJ.out
                refine fun _ => ⟨h1.1, h1.2, fun p hp he => ?_⟩
                obtain rfl : p = j := by omega
                omega
      · rw [decide_eq_false ha]
        have HA := Lib.hid ha
        have HW1 := Lib.hid hW1
        clear ha hW1 hb1
        go_wp2_with fail
        go_ret
        exact ⟨ret_b (pB_no (fun h => HA.out ⟨(h.2 i hlt).1, (h.2 i hlt).2.1⟩)), HW1.out⟩
    · obtain rfl : i = xs.length := by omega
      by_cases h24 : xs.length ≤ 24
      · have t3 : decide ((xs.length : Int) ≤ 24) = true := decide_eq_true (by omega)
        go_wp2_with fail
        go_ret
        exact ⟨ret_b (pB_yes ⟨h24, fun i h => HN.out i h h⟩), HW.out⟩
      · have t3 : decide ((xs.length : Int) ≤ 24) = false := decide_eq_false (by omega)
        go_wp2_with fail
        go_ret
        exact ⟨ret_b (pB_no (fun h => h24 h.1)), HW.out⟩
end Go.Proofs.Ytcbomlmlindjdaa
end
section
namespace Go.Proofs.Ytcbomlmlindjdaa
open Go.RowKit Go.Proofs.YtcbomlmlindjdaaW.PrintWords Go.Proofs.YtcbomlmlindjdaaW.PrintLast Go.Proofs.YtcbomlmlindjdaaW.PrintMore
set_option linter.unusedVariables false
set_option linter.unusedSimpArgs false

noncomputable def eqB {α : Type} (x y : α) : Bool := @decide (x = y) (Classical.propDecidable _)
theorem Fm.ext' {x y : Fm} (h1 : x.f0 = y.f0) (h2 : x.f1 = y.f1) (h3 : x.f2 = y.f2) (h4 : x.f3 = y.f3) (h5 : x.f4 = y.f4) : x = y := by
  cases x; cases y; simp_all
end Go.Proofs.Ytcbomlmlindjdaa
end
section
namespace Go.Proofs.Ytcbomlmlindjdaa
open Go.RowKit Go.Proofs.YtcbomlmlindjdaaW.PrintWords Go.Proofs.YtcbomlmlindjdaaW.PrintLast Go.Proofs.YtcbomlmlindjdaaW.PrintMore
set_option linter.unusedVariables false
set_option linter.unusedSimpArgs false

set_option maxHeartbeats 1000000 in
theorem l1Ints_any (xs ys : List Int) (A B : Option Addr) (c d : Nat) (w : World) (hr : kI.C w A xs.length xs) (hc : xs.length ≤ c) (hr2 : kI.C w B ys.length ys) (hc2 : ys.length ≤ d) :
    Calls Try.prog 50 #[.slice A xs.length c, .slice B ys.length d] w (Ret w (.bool (decide (xs = ys)))) := by
  have hmax := hr.2.1
  by_cases hl : xs.length = ys.length
  · have hl1 : ((xs.length : Int) == (ys.length : Int)) = true := by simp [hl]
    have hl2 : ((xs.length : Int) != (ys.length : Int)) = false := by simp [hl]
    have hl3 : (xs.length == ys.length) = true := by simp [hl]
    have hl4 : (xs.length != ys.length) = false := by simp [hl]
    have HL := Lib.hid hl
    clear hl
    go_enter Try.func50, Try.ntmps50
    go_wp2_with fail
    go_loopg [5] xs.length (fun kq v5 w' => ∃ i : Nat, i ≤ xs.length ∧ xs.length - i ≤ kq ∧ v5 = .int .i64 i ∧ Aside0 (∀ j (h : j < xs.length) (h2 : j < ys.length), j < i → xs[j] = ys[j]) ∧ Aside0 (Below w.heap.size w w'))
    case atStart => exact ⟨0, Nat.zero_le _, by omega, rfl, ⟨fun j _ _ h => absurd h (by omega)⟩, ⟨Below.refl _ _⟩⟩
    case round =>
      obtain ⟨i, hi, hg, rfl, HN, HW⟩ := hrel
      by_cases hlt : i < xs.length
      · have hlt2 : i < ys.length := by have := HL.out; omega
        obtain ⟨ad, e, hcell⟩ := int_at (Kd.C_below hr HW.out) i hlt
        subst e
        obtain ⟨ad2, e2, hcell2⟩ := int_at (Kd.C_below hr2 HW.out) i hlt2
        subst e2
        by_cases he : xs[i] = ys[i]
        · have hb1 : (xs[i] == ys[i]) = true := by simpa using he
          have hb2 : (xs[i] != ys[i]) = false := by simpa using he
          have HE := Lib.hid he
          clear he
          go_wp2_with fail
          go_quiet (fail)
          go_wp2_with fail
          go_roundg (xs.length - (i + 1))
          case measure => omega
          case rel =>
            refine ⟨i + 1, by omega, Nat.le_refl _, by go_num, ⟨fun j hj hj2 hji => ?_⟩, ⟨pw_below_drewN HW.out _⟩⟩
            rcases Nat.lt_or_ge j i with h | h
            · exact HN.out j hj hj2 h
            · obtain rfl : j = i := by omega
              exact HE.out
        · have hb1 : (xs[i] == ys[i]) = false := by simpa using he
          have hb2 : (xs[i] != ys[i]) = true := by simpa using he
          have HE := Lib.hid he
          clear he
          go_wp2_with fail
          go_quiet (fail)
          go_wp2_with fail
          go_ret
          refine ⟨ret_b (decide_eq_false (fun h => HE.out ?_)).symm, pw_below_drewN HW.out _⟩
          subst h
          rfl
      · obtain rfl : i = xs.length := by omega
        go_wp2_with fail
        go_ret
        refine ⟨ret_b (decide_eq_true (List.ext_getElem HL.out (fun j hj hj2 => HN.out j hj hj2 hj))).symm, HW.out⟩
  · have hl1 : ((xs.length : Int) == (ys.length : Int)) = false := by simp; omega
    have hl2 : ((xs.length : Int) != (ys.length : Int)) = true := by simp; omega
    have hl3 : (xs.length == ys.length) = false := by simp [hl]
    have hl4 : (xs.length != ys.length) = true := by simp [hl]
    have HL := Lib.hid hl
    clear hl
    go_enter Try.func50, Try.ntmps50
    go_wp2_with fail
    go_ret
    exact ⟨ret_b (decide_eq_false (fun h => HL.out (by rw [h]))).symm, Below.refl _ _⟩
set_option maxHeartbeats 1000000 in
theorem equalI_any (xs ys : List Int) (A B : Option Addr) (c d : Nat) (w : World) (hr : kI.C w A xs.length xs) (hc : xs.length ≤ c) (hr2 : kI.C w B ys.length ys) (hc2 : ys.length ≤ d) :
    Calls Try.prog 47 #[.slice A xs.length c, .slice B ys.length d] w (Ret w (.bool (decide (xs = ys)))) := by
  have hmax := hr.2.1
  by_cases hl : xs.length = ys.length
  · have hl1 : ((xs.length : Int) == (ys.length : Int)) = true := by simp [hl]
    have hl2 : ((xs.length : Int) != (ys.length : Int)) = false := by simp [hl]
    have hl3 : (xs.length == ys.length) = true := by simp [hl]
    have hl4 : (xs.length != ys.length) = false := by simp [hl]
    have HL := Lib.hid hl
    clear hl
    go_enter Try.func47, Try.ntmps47
    go_wp2_with fail
    go_loopg [5, 13] xs.length (fun kq v5 v13 w' => ∃ i : Nat, i ≤ xs.length ∧ xs.length - i ≤ kq ∧ v13 = .int .i64 i ∧ Aside0 (∀ j (h : j < xs.length) (h2 : j < ys.length), j < i → xs[j] = ys[j]) ∧ Aside0 (Below w.heap.size w w'))
    case atStart => exact ⟨0, Nat.zero_le _, by omega, rfl, ⟨fun j _ _ h => absurd h (by omega)⟩, ⟨Below.refl _ _⟩⟩
    case round =>
      obtain ⟨i, hi, hg, rfl, HN, HW⟩ := hrel
      by_cases hlt : i < xs.length
      · have hlt2 : i < ys.length := by have := HL.out; omega
        obtain ⟨ad, e, hcell⟩ := int_at (Kd.C_below hr HW.out) i hlt
        subst e
        obtain ⟨ad2, e2, hcell2⟩ := int_at (Kd.C_below hr2 HW.out) i hlt2
        subst e2
        by_cases he : xs[i] = ys[i]
        · have hb1 : (xs[i] == ys[i]) = true := by simpa using he
          have hb2 : (xs[i] != ys[i]) = false := by simpa using he
          have HE := Lib.hid he
          clear he
          go_wp2_with fail
          go_quiet (fail)
          go_wp2_with fail
          go_roundg (xs.length - (i + 1))
          case measure => omega
          case rel =>
            refine ⟨i + 1, by omega, Nat.le_refl _, by go_num, ⟨fun j hj hj2 hji => ?_⟩, ⟨pw_below_drewN HW.out _⟩⟩
            rcases Nat.lt_or_ge j i with h | h
            · exact HN.out j hj hj2 h
            · obtain rfl : j = i := by omega
              exact HE.out
        · have hb1 : (xs[i] == ys[i]) = false := by simpa using he
          have hb2 : (xs[i] != ys[i]) = true := by simpa using he
          have HE := Lib.hid he
          clear he
          go_wp2_with fail
          go_quiet (fail)
          go_wp2_with fail
          go_ret
          refine ⟨ret_b (decide_eq_false (fun h => HE.out ?_)).symm, pw_below_drewN HW.out _⟩
          subst h
          rfl
      · obtain rfl : i = xs.length := by omega
        go_wp2_with fail
        go_ret
        refine ⟨ret_b (decide_eq_true (List.ext_getElem HL.out (fun j hj hj2 => HN.out j hj hj2 hj))).symm, HW.out⟩
  · have hl1 : ((xs.length : Int) == (ys.length : Int)) = false := by simp; omega
    have hl2 : ((xs.length : Int) != (ys.length : Int)) = true := by simp; omega
    have hl3 : (xs.length == ys.length) = false := by simp [hl]
    have hl4 : (xs.length != ys.length) = true := by simp [hl]
    have HL := Lib.hid hl
    clear hl
    go_enter Try.func47, Try.ntmps47
    go_wp2_with fail
    go_ret
    exact ⟨ret_b (decide_eq_false (fun h => HL.out (by rw [h]))).symm, Below.refl _ _⟩
end Go.Proofs.Ytcbomlmlindjdaa
end
section
namespace Go.Proofs.Ytcbomlmlindjdaa
open Go.RowKit Go.Proofs.YtcbomlmlindjdaaW.PrintWords Go.Proofs.YtcbomlmlindjdaaW.PrintLast Go.Proofs.YtcbomlmlindjdaaW.PrintMore
set_option linter.unusedVariables false
set_option linter.unusedSimpArgs false

theorem nmB_false {s : ByteArray} (h : nmB s = false) : ¬ NmOk s := fun k => by rw [(nmB_iff _).2 k] at h; cases h
theorem pB_false {p : Prop} (h : pB p = false) : ¬ p := fun k => by rw [pB_iff.2 k] at h; cases h
abbrev kB : Kd Bd := Q.k36
def zBd : Bd := ⟨⟨#[]⟩, [], 0⟩
/-- What the three cells of a binding lead to. -/
structure BdIn (w : World) (x : Bd) (A1 : Option Addr) (c1 : Nat) : Prop where
  l1 : x.f1.length ≤ c1
  g1 : kI.C w A1 x.f1.length x.f1
theorem BdIn.below {w w1 : World} {x : Bd} {A1 : Option Addr} {c1 : Nat} (h : BdIn w x A1 c1) (hb : Below w.heap.size w w1) : BdIn w1 x A1 c1 := ⟨h.l1, Kd.C_below h.g1 hb⟩
/-- The binding at place i: its cells, and what they lead to. -/
theorem bd_at {w : World} {A : Option Addr} {n : Nat} {xs : List Bd} (h : kB.C w A n xs) (i : Nat) (h1 : i < xs.length) : ∃ ad A1 c1, A = some ad ∧ w.cell? (ad.add (i * 3)) = some (.string xs[i].f0) ∧ w.cell? ⟨(ad.add (i * 3)).block, (ad.add (i * 3)).off + 1, none⟩ = some (.slice A1 xs[i].f1.length c1) ∧ w.cell? ⟨(ad.add (i * 3)).block, (ad.add (i * 3)).off + 2, none⟩ = some (.int .i64 xs[i].f2) ∧ BdIn w xs[i] A1 c1 := by
  have hn := h.1
  obtain ⟨ad, c, e, _, hK, hc0⟩ := Kd.C_get h zBd (i : Int) (by omega) (by omega)
  rw [Int.toNat_natCast] at hK hc0
  rw [show xs.getD i zBd = xs[i] from by rw [List.getD_eq_getElem?_getD, List.getElem?_eq_getElem h1]; rfl] at hK
  have hc : ∀ j u, c[j]? = some u → w.cell? (ad.add (i * 3 + j)) = some u := hc0
  obtain ⟨A1, c1, rfl, l1, g1⟩ := Q.k36_open hK
  exact ⟨ad, A1, c1, e, hc 0 _ rfl, by rw [← add_field _ _ 1 (by omega)]; exact hc 1 _ rfl, by rw [← add_field _ _ 2 (by omega)]; exact hc 2 _ rfl, l1, g1⟩
/-- The three cells of a variable that holds a binding. -/
theorem bd_cells {w : World} {g : Nat} {v0 v1 v2 : Value} {t : TypeId} (h : w.heap[g]? = some (.cells #[v0, v1, v2] t (0, 0))) : w.cell? ⟨g, 0, none⟩ = some v0 ∧ w.cell? ⟨g, 1, none⟩ = some v1 ∧ w.cell? ⟨g, 2, none⟩ = some v2 :=
  ⟨(blk_cell h 0).trans rfl, (blk_cell h 1).trans rfl, (blk_cell h 2).trans rfl⟩
set_option maxHeartbeats 1000000 in
theorem indexFuncB_any (xs : List Bd) (p : Bd → Bool) (g : Nat) (lb : Array Value) (eg : ∀ args w, (callFunc g args).run Try.prog w = .ok (.enter g args) w) (A : Option Addr) (c : Nat) (w : World) (hr : kB.C w A xs.length xs) (hc : xs.length ≤ c)
    (hp : ∀ x, x ∈ xs → ∀ (A1 : Option Addr) (c1 : Nat) (W : World), Below w.heap.size w W → BdIn W x A1 c1 → Calls Try.prog g (#[.agg #[.string x.f0, .slice A1 x.f1.length c1, .int .i64 x.f2]] ++ lb) W (Ret W (.bool (p x)))) :
    Calls Try.prog 78 #[.slice A xs.length c, .func (.func g) #[] lb] w (Ret w (.int .i64 (fidx p xs))) := by
  have hmax := hr.2.1
  have HP := Lib.hid hp
  clear hp
  go_enter Try.func78, Try.ntmps78
  go_wp2_with fail
  go_loopg [5, 8] xs.length (fun kq v5 v8 w' => ∃ i : Nat, i ≤ xs.length ∧ xs.length - i ≤ kq ∧ v8 = .int .i64 i ∧ Aside0 (∀ j (h : j < xs.length), j < i → p xs[j] = false) ∧ Aside0 (Below w.heap.size w w'))
  case atStart => exact ⟨0, Nat.zero_le _, by omega, rfl, ⟨fun j _ h => absurd h (by omega)⟩, ⟨Below.refl _ _⟩⟩
  case round =>
    obtain ⟨i, hi, hg, rfl, HN, HW⟩ := hrel
    by_cases hlt : i < xs.length
    · obtain ⟨ad, A1, c1, e, g0, g1, g2, hk⟩ := bd_at (Kd.C_below hr HW.out) i hlt
      subst e
      have HC := Lib.hid (HP.out xs[i] (List.getElem_mem hlt) A1 c1 wr HW.out hk)
      clear hk
      generalize hb : p xs[i] = b at HC
      have HB := Lib.hid hb
      clear hb
      cases b with
      | true =>
        go_wp2_with fail
        refine HC.out.mono ?_
        rintro e w1 ⟨rfl, hb1⟩
        go_wp2_with fail
        go_ret
        exact ⟨ret_i (fidx_hit hlt HB.out (fun j hj => HN.out j _ hj)).symm, below_step HW.out hb1⟩
      | false =>
        go_wp2_with fail
        refine HC.out.mono ?_
        rintro e w1 ⟨rfl, hb1⟩
        go_wp2_with fail
        go_roundg (xs.length - (i + 1))
        case measure => omega
        case rel =>
          refine ⟨i + 1, by omega, Nat.le_refl _, by go_num, ⟨fun j hj hji => ?_⟩, ⟨below_step HW.out hb1⟩⟩
          rcases Nat.lt_or_ge j i with h | h
          · exact HN.out j hj h
          · obtain rfl : j = i := by omega
            exact HB.out
    · obtain rfl : i = xs.length := by omega
      go_wp2_with fail
      go_ret
      exact ⟨ret_i (fidx_miss (fun j hj => HN.out j hj hj)).symm, HW.out⟩
theorem containsFuncB_any (xs : List Bd) (p : Bd → Bool) (g : Nat) (lb : Array Value) (eg : ∀ args w, (callFunc g args).run Try.prog w = .ok (.enter g args) w) (A : Option Addr) (c : Nat) (w : World) (hr : kB.C w A xs.length xs) (hc : xs.length ≤ c)
    (hp : ∀ x, x ∈ xs → ∀ (A1 : Option Addr) (c1 : Nat) (W : World), Below w.heap.size w W → BdIn W x A1 c1 → Calls Try.prog g (#[.agg #[.string x.f0, .slice A1 x.f1.length c1, .int .i64 x.f2]] ++ lb) W (Ret W (.bool (p x)))) :
    Calls Try.prog 45 #[.slice A xs.length c, .func (.func g) #[] lb] w (Ret w (.bool (xs.any p))) := by
  have HD := Lib.hid (fidx_any p xs)
  have HC := Lib.hid (indexFuncB_any xs p g lb eg A c w hr hc hp)
  clear hr hc hp
  generalize fidx p xs = r at HD HC
  go_enter Try.func45, Try.ntmps45
  go_wp2_with fail
  refine HC.out.mono ?_
  rintro e w1 ⟨rfl, hb1⟩
  go_wp2_with fail
  go_ret
  exact ⟨ret_b HD.out, hb1⟩

def BdOk (b : Bd) : Prop := NmOk b.f0 ∧ ScOk b.f1 ∧ 1 ≤ b.f2 ∧ b.f2 ≤ 999
def sameB (b c : Bd) : Bool := decide (c.f0.toList = b.f0.toList) && decide (c.f1 = b.f1)
def BdAt (l : List Bd) (i : Nat) : Prop := ∀ (h : i < l.length), BdOk l[i] ∧ (l.take i).any (sameB l[i]) = false
def BdsOk (l : List Bd) : Prop := l.length ≤ 60 ∧ ∀ i, BdAt l i
theorem bindsValid1_any (x b : Bd) (A1 : Option Addr) (c1 : Nat) (B1 : Option Addr) (d1 : Nat) (g : Nat) (w : World) (hx : BdIn w x A1 c1) (hg : w.heap[g]? = some (.cells #[.string b.f0, .slice B1 b.f1.length d1, .int .i64 b.f2] 36 (0, 0))) (hb : BdIn w b B1 d1) :
    Calls Try.prog 46 #[.agg #[.string x.f0, .slice A1 x.f1.length c1, .int .i64 x.f2], .pointer (some ⟨g, 0, none⟩)] w (Ret w (.bool (sameB b x))) := by
  obtain ⟨p0, p1, p2⟩ := bd_cells hg
  have hn := below_new w (.cells #[.string x.f0, .slice A1 x.f1.length c1, .int .i64 x.f2] 36)
  have HC := Lib.hid (equalI_any x.f1 b.f1 A1 B1 c1 d1 _ (Kd.C_below hx.g1 hn) hx.l1 (Kd.C_below hb.g1 hn) hb.l1)
  have HN := Lib.hid hn
  have q0 := ck0 hn p0
  have q1 := ck0 hn p1
  clear hn hg p0 p1 p2 hx hb
  by_cases e : x.f0.toList = b.f0.toList
  · have t1 : (x.f0.toList == b.f0.toList) = true := by rw [e]; simp
    have HE := Lib.hid e
    clear e
    go_enter Try.func46, Try.ntmps46
    go_wp2_with fail
    refine HC.out.mono ?_
    rintro e w1 ⟨rfl, hb1⟩
    generalize hd : decide (x.f1 = b.f1) = z
    have HD := Lib.hid hd
    clear hd
    go_wp2_with fail
    go_ret
    exact ⟨ret_b (by rw [sameB, decide_eq_true HE.out, HD.out]; rfl), below_step HN.out hb1⟩
  · have t1 : (x.f0.toList == b.f0.toList) = false := by simpa using e
    have HE := Lib.hid e
    clear e
    go_enter Try.func46, Try.ntmps46
    go_wp2_with fail
    go_ret
    exact ⟨ret_b (by rw [sameB, decide_eq_false HE.out]; rfl), HN.out⟩
set_option maxHeartbeats 4000000 in
set_option maxRecDepth 100000 in
theorem implBinds_any (xs : List Bd) (A : Option Addr) (c : Nat) (w : World) (hr : kB.C w A xs.length xs) (hc : xs.length ≤ c) (hn : ∀ b, b ∈ xs → b.f0.size ≤ 140737488351232) :
    Calls Try.prog 16 #[.slice A xs.length c] w (Ret w (.bool (pB (BdsOk xs)))) := by
  have eg : ∀ args w, (callFunc 46 args).run Try.prog w = .ok (.enter 46 args) w := enters_of Try.func46 (by kernel_rfl) rfl
  have hmax := hr.2.1
  have EG := Lib.hid eg
  have NM := Lib.hid hn
  clear eg hn
  go_enter Try.func16, Try.ntmps16
  go_wp2_with fail
  go_loopg [3, 4, 7] xs.length (fun kq v3 v4 v7 w' => ∃ i : Nat, i ≤ xs.length ∧ xs.length - i ≤ kq ∧ v7 = .int .i64 i ∧ Aside0 (∀ j, j < i → BdAt xs j) ∧ Aside0 (Below w.heap.size w w'))
  case atStart => exact ⟨0, Nat.zero_le _, by omega, rfl, ⟨fun j h => absurd h (by omega)⟩, ⟨Below.refl _ _⟩⟩
  case round =>
    obtain ⟨i, hi, hg, rfl, HN, HW⟩ := hrel
    by_cases hlt : i < xs.length
    · obtain ⟨ad, A1, c1, e, g0, g1, g2, hk⟩ := bd_at (Kd.C_below hr HW.out) i hlt
      subst e
      have HK := Lib.hid hk
      have HX := Lib.hid (NM.out xs[i] (List.getElem_mem hlt))
      have hnw := below_new wr (.cells #[.string xs[i].f0, .slice A1 xs[i].f1.length c1, .int .i64 xs[i].f2] 36)
      have HNW := Lib.hid hnw
      clear hk hnw
      go_wp2_with fail
      refine (implName_any _ _ HX.out).mono ?_
      rintro e w1 ⟨rfl, hb1⟩
      obtain ⟨k0, b1⟩ := one_new hb1
      obtain ⟨p0, p1, p2⟩ := bd_cells k0
      have K0 := Lib.hid k0
      have B1 := Lib.hid b1
      clear k0 hb1 b1
      cases ht : nmB xs[i].f0 with
      | false =>
        have HT := Lib.hid (nmB_false ht)
        clear ht
        go_wp2_with fail
        go_ret
        exact ⟨ret_b (pB_no (fun h => HT.out (h.2 i hlt).1.1)), below_step HW.out B1.out⟩
      | true =>
        have HT := Lib.hid ((nmB_iff _).1 ht)
        clear ht
        go_wp2_with fail
        refine (scopesOk_any xs[i].f1 A1 c1 w1 (HK.out.below B1.out).g1 HK.out.l1).mono ?_
        rintro e w2 ⟨rfl, hb2⟩
        obtain ⟨q0, q1, q2⟩ := bd_cells (blk_below K0.out hb2)
        have B2 := Lib.hid (below_step B1.out hb2)
        have K2 := Lib.hid (blk_below K0.out hb2)
        clear hb2 p0 p1 p2
        cases hs : pB (ScOk xs[i].f1) with
        | false =>
          have HS := Lib.hid (pB_false hs)
          clear hs
          go_wp2_with fail
          go_ret
          exact ⟨ret_b (pB_no (fun h => HS.out (h.2 i hlt).1.2.1)), below_step HW.out B2.out⟩
        | true =>
          have HS := Lib.hid (pB_iff.1 hs)
          clear hs
          go_wp2_with fail
          refine (within_any _ _ _ _).mono ?_
          rintro e w3 ⟨rfl, hb3⟩
          have B3 := Lib.hid (below_step B2.out hb3)
          have K3 := Lib.hid (blk_below K2.out hb3)
          clear hb3 q0 q1 q2
          cases hd : decide (1 ≤ xs[i].f2 ∧ xs[i].f2 ≤ 999) with
          | false =>
            have HD := Lib.hid (of_decide_eq_false hd)
            clear hd
            go_wp2_with fail
            go_ret
            exact ⟨ret_b (pB_no (fun h => HD.out (h.2 i hlt).1.2.2)), below_step HW.out B3.out⟩
          | true =>
            have HD := Lib.hid (of_decide_eq_true hd)
            clear hd
            have HCF := Lib.hid (containsFuncB_any (xs.take i) (sameB xs[i]) 46 #[.pointer (some ⟨wr.heap.size, 0, none⟩)] EG.out (some ad) c w3 (Kd.C_take (Kd.C_below hr (below_step HW.out B3.out)) (by omega)) (by rw [List.length_take]; omega)
              (fun x hx A2 c2 W hb hin => bindsValid1_any x xs[i] A2 c2 A1 c1 wr.heap.size W hin (blk_below K3.out hb) ((HK.out.below B3.out).below hb)))
            rw [List.length_take, Nat.min_eq_left hi] at HCF
            go_wp2_with fail
            refine HCF.out.mono ?_
            rintro e w4 ⟨rfl, hb4⟩
            have B4 := Lib.hid (below_step B3.out hb4)
            clear hb4
            cases hz : (xs.take i).any (sameB xs[i]) with
            | true =>
              have HZ := Lib.hid hz
              clear hz
              go_wp2_with fail
              go_ret
              exact ⟨ret_b (pB_no (fun h => by have := (h.2 i hlt).2; rw [HZ.out] at this; cases this)), below_step HW.out B4.out⟩
            | false =>
              have HZ := Lib.hid hz
              clear hz
              go_wp2_with fail
              go_roundg (xs.length - (i + 1))
              case measure => omega
              case rel =>
                refine ⟨i + 1, by omega, Nat.le_refl _, by go_num, ⟨fun j hji => ?_⟩, ⟨below_step HW.out B4.out⟩⟩
                rcases Nat.lt_or_ge j i with h | h
                · exact HN.out j h
                · obtain rfl : j = i := by omega
                  exact fun _ => ⟨⟨HT.out, HS.out, HD.out⟩, HZ.out⟩
    · obtain rfl : i = xs.length := by omega
      by_cases h60 : xs.length ≤ 60
      · have t1 : decide ((xs.length : Int) ≤ 60) = true := decide_eq_true (by omega)
        have t2 : decide (xs.length ≤ 60) = true := decide_eq_true h60
        go_wp2_with fail
        go_ret
        exact ⟨ret_b (pB_yes ⟨h60, fun j h => HN.out j h h⟩), HW.out⟩
      · have t1 : decide ((xs.length : Int) ≤ 60) = false := decide_eq_false (by omega)
        have t2 : decide (xs.length ≤ 60) = false := decide_eq_false h60
        go_wp2_with fail
        go_ret
        exact ⟨ret_b (pB_no (fun h => h60 h.1)), HW.out⟩
end Go.Proofs.Ytcbomlmlindjdaa
end
section
namespace Go.Proofs.Ytcbomlmlindjdaa
open Go.RowKit Go.Proofs.YtcbomlmlindjdaaW.PrintWords Go.Proofs.YtcbomlmlindjdaaW.PrintLast Go.Proofs.YtcbomlmlindjdaaW.PrintMore
set_option linter.unusedVariables false
set_option linter.unusedSimpArgs false

abbrev encI (xs : List Int) : List Value := encs (Value.int .i64) xs
abbrev obs (v : Value) : List Nat := v.ownBlock.toList
mutual
inductive TrF (w : World) : Fm → Value → Value → List Nat → Prop
  | mk (x : Fm) (v3 v4 : Value) (inner : List Value) (fp : List Nat) (h3 : w.ownsRow 0 3 1 v3 x.f3.length (encI x.f3)) (h4 : w.ownsRow 0 30 5 v4 x.f4.length inner) (hk : TrL w x.f4 inner fp) : TrF w x v3 v4 (obs v3 ++ (obs v4 ++ fp))
inductive TrL (w : World) : List Fm → List Value → List Nat → Prop
  | nil : TrL w [] [] []
  | cons (k : Fm) (ks : List Fm) (v3 v4 : Value) (rest : List Value) (fk fs : List Nat) (hk : TrF w k v3 v4 fk) (hs : TrL w ks rest fs) : TrL w (k :: ks) ([.int .i64 k.f0, .string k.f1, .int .i64 k.f2, v3, v4] ++ rest) (fk ++ fs)
end
theorem TrF.open {w : World} {x : Fm} {v3 v4 : Value} {fp : List Nat} (h : TrF w x v3 v4 fp) : ∃ inner fk, fp = obs v3 ++ (obs v4 ++ fk) ∧ w.ownsRow 0 3 1 v3 x.f3.length (encI x.f3) ∧ w.ownsRow 0 30 5 v4 x.f4.length inner ∧ TrL w x.f4 inner fk := by
  cases h with
  | mk _ _ _ inner fk h3 h4 hk => exact ⟨inner, fk, rfl, h3, h4, hk⟩
theorem TrL.cons_inv {w : World} {k : Fm} {ks : List Fm} {inner : List Value} {fp : List Nat} (h : TrL w (k :: ks) inner fp) : ∃ v3 v4 rest fk fs, inner = [.int .i64 k.f0, .string k.f1, .int .i64 k.f2, v3, v4] ++ rest ∧ fp = fk ++ fs ∧ TrF w k v3 v4 fk ∧ TrL w ks rest fs := by
  cases h with
  | cons _ _ v3 v4 rest fk fs hk hs => exact ⟨v3, v4, rest, fk, fs, rfl, rfl, hk, hs⟩
theorem TrL.nil_inv {w : World} {inner : List Value} {fp : List Nat} (h : TrL w [] inner fp) : inner = [] ∧ fp = [] := by
  cases h
  exact ⟨rfl, rfl⟩
/-- A fact on forms, shown for forms and lists of forms at once. -/
theorem TrL.of {w : World} {Q : List Fm → List Value → List Nat → Prop} (hn : Q [] [] []) (hc : ∀ k ks v3 v4 rest fk fs, TrF w k v3 v4 fk → TrL w ks rest fs → Q ks rest fs → Q (k :: ks) ([.int .i64 k.f0, .string k.f1, .int .i64 k.f2, v3, v4] ++ rest) (fk ++ fs)) : ∀ {ks : List Fm} {inner : List Value} {fp : List Nat}, TrL w ks inner fp → Q ks inner fp := by
  intro ks
  induction ks with
  | nil => intro inner fp h; obtain ⟨rfl, rfl⟩ := h.nil_inv; exact hn
  | cons k ks ih =>
    intro inner fp h
    obtain ⟨v3, v4, rest, fk, fs, rfl, rfl, hk, hs⟩ := h.cons_inv
    exact hc k ks v3 v4 rest fk fs hk hs (ih hs)
theorem TrL.len {w : World} {ks : List Fm} {inner : List Value} {fp : List Nat} (h : TrL w ks inner fp) : inner.length = ks.length * 5 := by
  refine TrL.of (Q := fun ks inner _ => inner.length = ks.length * 5) rfl ?_ h
  intro k ks v3 v4 rest fk fs _ _ ih
  simp [ih]; omega
theorem TrL.append {w : World} {a b : List Fm} {ia ib : List Value} {fa fb : List Nat} (ha : TrL w a ia fa) (hb : TrL w b ib fb) : TrL w (a ++ b) (ia ++ ib) (fa ++ fb) := by
  refine TrL.of (Q := fun a ia fa => TrL w (a ++ b) (ia ++ ib) (fa ++ fb)) hb ?_ ha
  intro k ks v3 v4 rest fk fs hk _ ih
  rw [List.cons_append, List.append_assoc, List.append_assoc]
  exact .cons k _ v3 v4 _ fk _ hk ih
theorem TrL.one {w : World} {k : Fm} {v3 v4 : Value} {fk : List Nat} (hk : TrF w k v3 v4 fk) : TrL w [k] [.int .i64 k.f0, .string k.f1, .int .i64 k.f2, v3, v4] fk := by
  have := TrL.cons k [] v3 v4 [] fk [] hk .nil
  simpa using this
theorem TrL.split {w : World} (a : List Fm) : ∀ {b : List Fm} {inner : List Value} {fp : List Nat}, TrL w (a ++ b) inner fp → ∃ ia ib fa fb, inner = ia ++ ib ∧ fp = fa ++ fb ∧ TrL w a ia fa ∧ TrL w b ib fb := by
  induction a with
  | nil => intro b inner fp h; exact ⟨[], inner, [], fp, rfl, rfl, .nil, h⟩
  | cons k ks ih =>
    intro b inner fp h
    obtain ⟨v3, v4, rest, fk, fs, rfl, rfl, hk, hs⟩ := TrL.cons_inv (ks := ks ++ b) h
    obtain ⟨ia, ib, fa, fb, rfl, rfl, h1, h2⟩ := ih hs
    exact ⟨_ ++ ia, ib, fk ++ fa, fb, by rw [List.append_assoc], by rw [List.append_assoc], .cons k ks v3 v4 ia fk fa hk h1, h2⟩
theorem obs_mem {v : Value} {k : Nat} : k ∈ obs v ↔ v.ownBlock = some k := by
  unfold obs
  cases v.ownBlock <;> simp [eq_comm]
theorem own_base_ {w : World} {e sz n B : Nat} {v : Value} {xs : List Value} (h : w.ownsRow 0 e sz v n xs) (hb : ∀ b, v.ownBlock = some b → B ≤ b) : w.ownsRow B e sz v n xs := by
  obtain ⟨h1, h2⟩ := h
  refine ⟨h1, ?_⟩
  rcases h2 with h2 | ⟨g, cap, cur, rfl, hg, r⟩
  · exact .inl h2
  · exact .inr ⟨g, cap, cur, rfl, hb g rfl, r⟩
/-- Where the blocks of the footprint stand as_ they stood, the form stands. -/
theorem TrF.move {w w1 : World} : ∀ (x : Fm) {v3 v4 : Value} {fp : List Nat}, TrF w x v3 v4 fp → (∀ b, b ∈ fp → w1.heap[b]? = w.heap[b]?) → TrF w1 x v3 v4 fp := by
  intro x
  induction x using Fm.ind with
  | h x ih =>
    intro v3 v4 fp h hm
    obtain ⟨inner, fk, rfl, h3, h4, hk⟩ := h.open
    refine .mk x v3 v4 inner fk (own_move h3 (fun k hk => hm k (by simp [obs_mem, hk]))) (own_move h4 (fun k hk => hm k (by simp [obs_mem, hk]))) ?_
    have key : ∀ (ks : List Fm), (∀ k, k ∈ ks → k ∈ x.f4) → ∀ {inner : List Value} {fk : List Nat}, TrL w ks inner fk → (∀ b, b ∈ fk → w1.heap[b]? = w.heap[b]?) → TrL w1 ks inner fk := by
      intro ks
      induction ks with
      | nil => intro _ inner fk h _; obtain ⟨rfl, rfl⟩ := h.nil_inv; exact .nil
      | cons k ks ih2 =>
        intro hsub inner fk h hm
        obtain ⟨u3, u4, rest, f1, f2, rfl, rfl, hk, hs⟩ := h.cons_inv
        exact .cons k ks u3 u4 rest f1 f2 (ih k (hsub k List.mem_cons_self) hk (fun b hb => hm b (List.mem_append_left _ hb))) (ih2 (fun k hk => hsub k (List.mem_cons_of_mem _ hk)) hs (fun b hb => hm b (List.mem_append_right _ hb)))
    exact key x.f4 (fun _ h => h) hk (fun b hb => hm b (by simp [hb]))
theorem TrL.move {w w1 : World} : ∀ (ks : List Fm) {inner : List Value} {fk : List Nat}, TrL w ks inner fk → (∀ b, b ∈ fk → w1.heap[b]? = w.heap[b]?) → TrL w1 ks inner fk := by
  intro ks
  induction ks with
  | nil => intro inner fk h _; obtain ⟨rfl, rfl⟩ := h.nil_inv; exact .nil
  | cons k ks ih2 =>
    intro inner fk h hm
    obtain ⟨u3, u4, rest, f1, f2, rfl, rfl, hk, hs⟩ := h.cons_inv
    exact .cons k ks u3 u4 rest f1 f2 (hk.move k (fun b hb => hm b (List.mem_append_left _ hb))) (ih2 hs (fun b hb => hm b (List.mem_append_right _ hb)))
theorem TrF.lt {w : World} : ∀ (x : Fm) {v3 v4 : Value} {fp : List Nat}, TrF w x v3 v4 fp → ∀ b, b ∈ fp → b < w.heap.size := by
  intro x
  induction x using Fm.ind with
  | h x ih =>
    intro v3 v4 fp h b hb
    obtain ⟨inner, fk, rfl, h3, h4, hk⟩ := h.open
    rcases List.mem_append.1 hb with hb | hb
    · exact own_lt h3 b (obs_mem.1 hb)
    rcases List.mem_append.1 hb with hb | hb
    · exact own_lt h4 b (obs_mem.1 hb)
    have key : ∀ (ks : List Fm), (∀ k, k ∈ ks → k ∈ x.f4) → ∀ {inner : List Value} {fk : List Nat}, TrL w ks inner fk → ∀ b, b ∈ fk → b < w.heap.size := by
      intro ks
      induction ks with
      | nil => intro _ inner fk h b hb; obtain ⟨rfl, rfl⟩ := h.nil_inv; cases hb
      | cons k ks ih2 =>
        intro hsub inner fk h b hb
        obtain ⟨u3, u4, rest, f1, f2, rfl, rfl, hk, hs⟩ := h.cons_inv
        rcases List.mem_append.1 hb with hb | hb
        · exact ih k (hsub k List.mem_cons_self) hk b hb
        · exact ih2 (fun k hk => hsub k (List.mem_cons_of_mem _ hk)) hs b hb
    exact key x.f4 (fun _ h => h) hk b hb
theorem TrL.lt {w : World} : ∀ (ks : List Fm) {inner : List Value} {fk : List Nat}, TrL w ks inner fk → ∀ b, b ∈ fk → b < w.heap.size := by
  intro ks
  induction ks with
  | nil => intro inner fk h b hb; obtain ⟨rfl, rfl⟩ := h.nil_inv; cases hb
  | cons k ks ih2 =>
    intro inner fk h b hb
    obtain ⟨u3, u4, rest, f1, f2, rfl, rfl, hk, hs⟩ := h.cons_inv
    rcases List.mem_append.1 hb with hb | hb
    · exact hk.lt k b hb
    · exact ih2 hs b hb
theorem TrF.later {w w1 : World} {x : Fm} {v3 v4 : Value} {fp : List Nat} (h : TrF w x v3 v4 fp) (hb : Below w.heap.size w w1) : TrF w1 x v3 v4 fp := h.move x (fun b hb2 => hb.block b (h.lt x b hb2))
theorem TrL.later {w w1 : World} {ks : List Fm} {inner : List Value} {fp : List Nat} (h : TrL w ks inner fp) (hb : Below w.heap.size w w1) : TrL w1 ks inner fp := h.move ks (fun b hb2 => hb.block b (h.lt ks b hb2))
/-- A row of numbers reads. -/
theorem own_C {w : World} {v : Value} {xs : List Int} (h : w.ownsRow 0 3 1 v xs.length (encI xs)) : ∃ A c, v = .slice A xs.length c ∧ xs.length ≤ c ∧ kI.C w A xs.length xs := by
  obtain ⟨A, c, e, hr⟩ := own_reads_row (R := kI.K w) h (Kd.reps_scalar xs) rfl
  subst e
  exact ⟨A, c, rfl, own_le h, hr⟩
/-- A form in new memory reads. -/
theorem TrF.In {w : World} : ∀ (x : Fm) {v3 v4 : Value} {fp : List Nat}, TrF w x v3 v4 fp → ∃ A3 c3 A4 c4, v3 = .slice A3 x.f3.length c3 ∧ v4 = .slice A4 x.f4.length c4 ∧ FmIn w x A3 c3 A4 c4 := by
  intro x
  induction x using Fm.ind with
  | h x ih =>
    intro v3 v4 fp h
    obtain ⟨inner, fk, rfl, h3, h4, hk⟩ := h.open
    obtain ⟨A3, c3, rfl, l3, r3⟩ := own_C h3
    have key : ∀ (ks : List Fm), (∀ k, k ∈ ks → k ∈ x.f4) → ∀ {inner : List Value} {fk : List Nat}, TrL w ks inner fk → Reps (kF.K w) 5 ks inner := by
      intro ks
      induction ks with
      | nil => intro _ inner fk h; obtain ⟨rfl, rfl⟩ := h.nil_inv; exact Reps.none _ _
      | cons k ks ih2 =>
        intro hsub inner fk h
        obtain ⟨u3, u4, rest, f1, f2, rfl, rfl, hk, hs⟩ := h.cons_inv
        obtain ⟨B3, d3, B4, d4, rfl, rfl, hin⟩ := ih k (hsub k List.mem_cons_self) hk
        have hr := ih2 (fun k hk => hsub k (List.mem_cons_of_mem _ hk)) hs
        refine ⟨by rw [List.length_append, hr.1]; simp; omega, fun j p hj => ?_⟩
        cases j with
        | zero =>
          have : k = p := by simpa using hj
          subst this
          simpa using kF_mk hin
        | succ j =>
          have h2 := hr.2 j p (by simpa using hj)
          rw [show (j + 1) * 5 = 5 + j * 5 from by omega, ← List.drop_drop]
          simpa using h2
    obtain ⟨A4, c4, e, r4⟩ := own_reads_row (R := kF.K w) h4 (key x.f4 (fun _ h => h) hk) rfl
    subst e
    exact ⟨A3, c3, A4, c4, rfl, rfl, l3, r3, own_le h4, r4⟩
theorem TrL.reps {w : World} : ∀ (ks : List Fm) {inner : List Value} {fk : List Nat}, TrL w ks inner fk → Reps (kF.K w) 5 ks inner := by
  intro ks
  induction ks with
  | nil => intro inner fk h; obtain ⟨rfl, rfl⟩ := h.nil_inv; exact Reps.none _ _
  | cons k ks ih2 =>
    intro inner fk h
    obtain ⟨u3, u4, rest, f1, f2, rfl, rfl, hk, hs⟩ := h.cons_inv
    obtain ⟨B3, d3, B4, d4, rfl, rfl, hin⟩ := hk.In k
    have hr := ih2 hs
    refine ⟨by rw [List.length_append, hr.1]; simp; omega, fun j p hj => ?_⟩
    cases j with
    | zero =>
      have : k = p := by simpa using hj
      subst this
      simpa using kF_mk hin
    | succ j =>
      have h2 := hr.2 j p (by simpa using hj)
      rw [show (j + 1) * 5 = 5 + j * 5 from by omega, ← List.drop_drop]
      simpa using h2
theorem TrL.C {w : World} {ks : List Fm} {inner : List Value} {fk : List Nat} {v : Value} (h : TrL w ks inner fk) (h4 : w.ownsRow 0 30 5 v ks.length inner) : ∃ A c, v = .slice A ks.length c ∧ ks.length ≤ c ∧ kF.C w A ks.length ks := by
  obtain ⟨A4, c4, e, r4⟩ := own_reads_row (R := kF.K w) h4 (h.reps ks) rfl
  subst e
  exact ⟨A4, c4, rfl, own_le h4, r4⟩
/-- Five stores, one behind the other: an element of a row. -/
abbrev set5 (w : World) (g o : Nat) (b0 b1 b2 b3 b4 : Value) : World := ((((w.setCell ⟨g, o, none⟩ b0).setCell ⟨g, o + 1, none⟩ b1).setCell ⟨g, o + 2, none⟩ b2).setCell ⟨g, o + 3, none⟩ b3).setCell ⟨g, o + 4, none⟩ b4
theorem set5_far (w : World) (g o : Nat) (b0 b1 b2 b3 b4 : Value) (k : Nat) (h : k ≠ g) : (set5 w g o b0 b1 b2 b3 b4).heap[k]? = w.heap[k]? := by
  unfold set5
  rw [Below.heap_setCell _ _ _ _ h, Below.heap_setCell _ _ _ _ h, Below.heap_setCell _ _ _ _ h, Below.heap_setCell _ _ _ _ h, Below.heap_setCell _ _ _ _ h]
theorem row_put {w : World} {e g n cap i : Nat} {inner rest : List Value} {a0 a1 a2 a3 a4 : Value} (h : w.ownsRow 0 e 5 (.slice (some ⟨g, 0, none⟩) n cap) n (inner ++ ([a0, a1, a2, a3, a4] ++ rest))) (hl : inner.length = i * 5) :
    (w.cell? ⟨g, i * 5, none⟩ = some a0 ∧ w.cell? ⟨g, i * 5 + 1, none⟩ = some a1 ∧ w.cell? ⟨g, i * 5 + 2, none⟩ = some a2 ∧ w.cell? ⟨g, i * 5 + 3, none⟩ = some a3 ∧ w.cell? ⟨g, i * 5 + 4, none⟩ = some a4) ∧
    (∀ j, w.frozen? ⟨g, j, none⟩ = false) ∧
    ∀ b0 b1 b2 b3 b4, (set5 w g (i * 5) b0 b1 b2 b3 b4).ownsRow 0 e 5 (.slice (some ⟨g, 0, none⟩) n cap) n (inner ++ ([b0, b1, b2, b3, b4] ++ rest)) := by
  have hn : inner.length + 5 + rest.length = n * 5 := by have := h.1; simp at this; omega
  have hc : ∀ j, j < 5 → w.cell? ⟨g, i * 5 + j, none⟩ = ([a0, a1, a2, a3, a4] ++ rest)[j]? := by
    intro j hj
    rw [World.ownsRow.cellAt h _ (by omega), List.getElem?_append_right (by omega)]
    congr 1
    omega
  refine ⟨⟨hc 0 (by omega), hc 1 (by omega), hc 2 (by omega), hc 3 (by omega), hc 4 (by omega)⟩, fun j => World.ownsRow.frozenAt h j, fun b0 b1 b2 b3 b4 => ?_⟩
  have s0 := (World.ownsRow.stored h (i * 5) b0).1
  have s1 := (World.ownsRow.stored s0 (i * 5 + 1) b1).1
  have s2 := (World.ownsRow.stored s1 (i * 5 + 2) b2).1
  have s3 := (World.ownsRow.stored s2 (i * 5 + 3) b3).1
  have s4 := (World.ownsRow.stored s3 (i * 5 + 4) b4).1
  have e : ((((((inner ++ ([a0, a1, a2, a3, a4] ++ rest)).set (i * 5) b0).set (i * 5 + 1) b1).set (i * 5 + 2) b2).set (i * 5 + 3) b3).set (i * 5 + 4) b4) = inner ++ ([b0, b1, b2, b3, b4] ++ rest) := by
    rw [← hl]
    simp [List.set_append]
  rw [e] at s4
  exact s4
end Go.Proofs.Ytcbomlmlindjdaa
end
section
namespace Go.Proofs.Ytcbomlmlindjdaa
open Go.RowKit Go.Proofs.YtcbomlmlindjdaaW.PrintWords Go.Proofs.YtcbomlmlindjdaaW.PrintLast Go.Proofs.YtcbomlmlindjdaaW.PrintMore
set_option linter.unusedVariables false
set_option linter.unusedSimpArgs false
/-- Only the blocks of S, and new ones, may have changed. -/
structure Mk (S : List Nat) (w w' : World) : Prop where
  b0 : Below 0 w w'
  keep : ∀ b, b < w.heap.size → b ∉ S → w'.heap[b]? = w.heap[b]?
theorem Mk.refl (S : List Nat) (w : World) : Mk S w w := ⟨Below.refl _ _, fun _ _ _ => rfl⟩
theorem Mk.trans {S : List Nat} {a b c : World} (h : Mk S a b) (k : Mk S b c) : Mk S a c :=
  ⟨h.b0.trans k.b0, fun j hj hs => (k.keep j (Nat.lt_of_lt_of_le hj h.b0.size) hs).trans (h.keep j hj hs)⟩
theorem Mk.more {S T : List Nat} {a b : World} (h : Mk S a b) (hs : ∀ j, j ∈ S → j ∈ T) : Mk T a b := ⟨h.b0, fun j hj ht => h.keep j hj (fun q => ht (hs j q))⟩
theorem Mk.ofBelow {S : List Nat} {w w' : World} (h : Below w.heap.size w w') : Mk S w w' := ⟨h.mono (Nat.zero_le _), fun b hb _ => h.block b hb⟩
theorem Mk.set {S : List Nat} (w : World) {g : Nat} (hg : g ∈ S) (i : Nat) (u : Value) : Mk S w (w.setCell ⟨g, i, none⟩ u) :=
  ⟨(Below.refl 0 w).setCell (Nat.zero_le _) u, fun b _ hb => Below.heap_setCell _ _ _ _ (fun h => hb (h ▸ hg))⟩
theorem Mk.below {S : List Nat} {w w' : World} {B : Nat} (h : Mk S w w') (hB : B ≤ w.heap.size) (hs : ∀ b, b ∈ S → B ≤ b) : Below B w w' :=
  ⟨h.b0.os, h.b0.tape, h.b0.output, h.b0.size, fun k hk => h.keep k (Nat.lt_of_lt_of_le hk hB) (fun q => Nat.lt_irrefl _ (Nat.lt_of_lt_of_le hk (hs k q)))⟩
/-- The numbers k, k + 1, ..: n of them. -/
def markI (n : Nat) (k : Int) : List Int := (List.range n).map (fun i : Nat => k + (i : Int))
end Go.Proofs.Ytcbomlmlindjdaa
end
section
namespace Go.Proofs.Ytcbomlmlindjdaa
open Go.RowKit Go.Proofs.YtcbomlmlindjdaaW.PrintWords Go.Proofs.YtcbomlmlindjdaaW.PrintLast Go.Proofs.YtcbomlmlindjdaaW.PrintMore
set_option linter.unusedVariables false
set_option linter.unusedSimpArgs false
theorem Mk.setCells {S : List Nat} {g : Nat} (hg : g ∈ S) : ∀ (vs : List Value) (o : Nat) (w : World), Mk S w (w.setCells g o vs)
  | [], _, w => Mk.refl S w
  | u :: r, o, w => by
    rw [World.setCells]
    exact (Mk.set w hg o u).trans (Mk.setCells hg r (o + 1) _)
end Go.Proofs.Ytcbomlmlindjdaa
end
section
namespace Go.Proofs.Ytcbomlmlindjdaa
open Go.RowKit Go.Proofs.YtcbomlmlindjdaaW.PrintWords Go.Proofs.YtcbomlmlindjdaaW.PrintLast Go.Proofs.YtcbomlmlindjdaaW.PrintMore
set_option linter.unusedVariables false
/-- Number, captured variables, the world in which these lie, what it computes, and that it does. -/
structure Fv where
  g : Nat
  lb : Array Value
  w0 : World
  f : List Int → Option (List Int)
  eg : ∀ args w, (callFunc g args).run Try.prog w = .ok (.enter g args) w
  ok : ∀ (P1_ : Nat → Prop) (u : Value) (l r : List Int) (wb w : World), Below wb.heap.size wb w → kI.R 3 w wb.heap.size P1_ u l → Below w0.heap.size w0 wb → f l = some r →
    Calls Try.prog g (#[u] ++ lb) w fun e w' => ∃ v0_ : Value, e = .returned v0_ ∧ kI.R 3 w' wb.heap.size (fun k_ => P1_ k_ ∨ w.heap.size ≤ k_) v0_ r ∧ Below wb.heap.size wb w' ∧ Kept w w' (fun k_ => P1_ k_)
end Go.Proofs.Ytcbomlmlindjdaa
namespace Go.Proofs.Ytcbomlmlindjdaa.Q
open Go.RowKit Go.Proofs.YtcbomlmlindjdaaW.PrintWords Go.Proofs.YtcbomlmlindjdaaW.PrintLast Go.Proofs.YtcbomlmlindjdaaW.PrintMore
set_option linter.unusedVariables false
def chg.f (a0 : Fv) (l1 : List Int) : Option (List Int) := a0.f l1
theorem chg.calls (a0 : Fv) (P1_ : Nat → Prop) (u9000_ : Value) (l1 : List Int) (r : List Int) (w0 w : World) (hB : Below w0.heap.size w0 w) (ho1 : Kd.R (Kd.int .i64) 3 w w0.heap.size P1_ u9000_ l1) (hw0 : Below a0.w0.heap.size a0.w0 w0) (h : chg.f a0 l1 = some r) :
    Calls Try.prog a0.g (#[u9000_] ++ a0.lb) w fun e w' => ∃ v0_ : Value, e = .returned v0_ ∧ Kd.R (Kd.int .i64) 3 w' w0.heap.size (fun k_ => (P1_ k_ ∨ w.heap.size ≤ k_)) v0_ r ∧ Below w0.heap.size w0 w' ∧ Kept w w' (fun k_ => P1_ k_) :=
  a0.ok P1_ u9000_ l1 r w0 w hB ho1 hw0 h
section
variable {P : Program} {ops : Array Oper} {Q : Exit → Act → World → Prop}
end
end Go.Proofs.Ytcbomlmlindjdaa.Q
end
section
namespace Go.Proofs.Ytcbomlmlindjdaa
open Go.RowKit Go.Proofs.YtcbomlmlindjdaaW.PrintWords Go.Proofs.YtcbomlmlindjdaaW.PrintLast Go.Proofs.YtcbomlmlindjdaaW.PrintMore
set_option linter.unusedVariables false
set_option linter.unusedSimpArgs false
def laysNm221_ren : Go.Shelf.Ren := ⟨fun | 21 => 89 | 27 => 97 | 28 => 98 | 35 => 101 | 39 => 102 | n => n, fun | 22 => 27 | 3 => 3 | 4 => 4 | 0 => 0 | n => n, fun | n => n⟩
theorem laysNm221 : Go.Proofs.Lays2.n21 Try.prog laysNm221_ren := {
  mixed := by kernel_rfl
  f21 := Try.func89.trans (congrArg some (by kernel_rfl))
  f27 := Try.func97.trans (congrArg some (by kernel_rfl))
  f28 := Try.func98.trans (congrArg some (by kernel_rfl))
  f35 := Try.func101.trans (congrArg some (by kernel_rfl))
  f39 := Try.func102.trans (congrArg some (by kernel_rfl))
  t0 := Try.underlying0
  a0 := Try.isAgg0
  z0 := Try.sizeOf0
  v0 := Try.zeroValue0
  t3 := Try.underlying3
  a3 := Try.isAgg3
  z3 := Try.sizeOf3
  v3 := Try.zeroValue3
  t4 := Try.underlying4
  a4 := Try.isAgg4
  z4 := Try.sizeOf4
  v4 := Try.zeroValue4
  t22 := Try.underlying27
  a22 := Try.isAgg27
  z22 := Try.sizeOf27
  v22 := Try.zeroValue27
  i3 := by kernel_rfl }
def laysNm225_ren : Go.Shelf.Ren := ⟨fun | 25 => 88 | 31 => 95 | 32 => 96 | 37 => 100 | n => n, fun | 22 => 27 | 3 => 3 | 4 => 4 | 40 => 92 | 0 => 0 | n => n, fun | n => n⟩
theorem laysNm225 : Go.Proofs.Lays2.n25 Try.prog laysNm225_ren := {
  mixed := by kernel_rfl
  f25 := Try.func88.trans (congrArg some (by kernel_rfl))
  f31 := Try.func95.trans (congrArg some (by kernel_rfl))
  f32 := Try.func96.trans (congrArg some (by kernel_rfl))
  f37 := Try.func100.trans (congrArg some (by kernel_rfl))
  t0 := Try.underlying0
  a0 := Try.isAgg0
  z0 := Try.sizeOf0
  v0 := Try.zeroValue0
  t3 := Try.underlying3
  a3 := Try.isAgg3
  z3 := Try.sizeOf3
  v3 := Try.zeroValue3
  t4 := Try.underlying4
  a4 := Try.isAgg4
  z4 := Try.sizeOf4
  v4 := Try.zeroValue4
  t22 := Try.underlying27
  a22 := Try.isAgg27
  z22 := Try.sizeOf27
  v22 := Try.zeroValue27
  t40 := Try.underlying92
  a40 := Try.isAgg92
  z40 := Try.sizeOf92
  v40 := Try.zeroValue92 }
theorem below_cells {B g : Nat} {a : World} {w : World} (h : Below B a w) (hg : B ≤ g) : ∀ (vs : List Value) (o : Nat), Below B a (w.setCells g o vs) := by
  intro vs
  induction vs generalizing w with
  | nil => intro o; exact h
  | cons u r ih =>
    intro o
    rw [World.setCells]
    exact ih (h.setCell (p := ⟨g, o, none⟩) hg u) (o + 1)
theorem R_block {W : World} {g n cap B : Nat} {ok : Nat → Prop} {cur : Array Value} {xs : List Int} (hh : W.heap[g]? = some (.cells cur 3 (0, 0))) (hb : B ≤ g) (hok : ok g) (hn : xs.length = n) (h1 : n ≤ cap) (h2 : cap ≤ maxLen) (hs : cur.size = cap) (ht : cur.toList.take n = encI xs) :
    kI.R 3 W B ok (.slice (some ⟨g, 0, none⟩) n cap) xs := by
  subst hn
  refine Kd.R_of_own ⟨by simp [encs], .inr ⟨g, cap, cur, rfl, hb, hh, h1, h2, by rw [hs, Nat.mul_one], by rw [Nat.mul_one]; exact ht⟩⟩ (fun k hk => ?_)
  have : g = k := by simpa [Value.ownBlock] using hk
  exact this ▸ hok
theorem zeroCells_list (k : Nat) : (Builtin.zeroCells (Value.int .i64 0).cells k).toList = List.replicate k (.int .i64 0) := by
  simp only [Builtin.zeroCells, Value.cells]
  apply List.ext_getElem
  · simp
  · intro i h1 h2
    simp [Nat.mod_one]
theorem zeroCells_size (k : Nat) : (Builtin.zeroCells (Value.int .i64 0).cells k).size = k := by
  rw [← Array.length_toList, zeroCells_list, List.length_replicate]
theorem encI_len (a : List Int) : (encI a).length = a.length := by simp [encs]
/-- A row with one number more. -/
def putAt (xs : List Int) (k : Nat) (x : Int) : List Int := xs.take k ++ x :: xs.drop k
theorem encI_putAt (xs : List Int) (k : Nat) (x : Int) : encI (putAt xs k x) = (encI xs).take k ++ Value.int .i64 x :: (encI xs).drop k := by simp [putAt, encs]
theorem putAt_len (xs : List Int) (k : Nat) (x : Int) (hk : k ≤ xs.length) : (putAt xs k x).length = xs.length + 1 := by simp [putAt]; omega
set_option maxHeartbeats 1000000 in
theorem insertI_any (xs : List Int) (x : Int) (k : Nat) (v : Value) (B : Nat) (P1 : Nat → Prop) (w : World) (vb : Nat) (h : kI.R 3 w B P1 v xs) (hk : k ≤ xs.length) (hB : B ≤ w.heap.size) (hx : w.heap[vb]? = some (.cells #[.int .i64 x] 3 (0, 0))) (hne : v.ownBlock ≠ some vb) (hlen : xs.length ≤ 1000000) :
    Calls Try.prog 89 #[v, .int .i64 k, .slice (some ⟨vb, 0, none⟩) 1 1] w (fun e w' => ∃ v', e = .returned v' ∧ kI.R 3 w' B (fun b => P1 b ∨ w.heap.size ≤ b) v' (putAt xs k x) ∧ Mk (obs v) w w') := by
  have hvs : ∀ j u, ([Value.int .i64 x] : List Value)[j]? = some u → w.cell? ⟨vb, 0 + j, none⟩ = some u := by
    intro j u hj
    cases j with
    | zero => cases hj; exact (blk_cell hx 0).trans rfl
    | succ j => simp at hj
  have h1v : ∀ u ∈ ([Value.int .i64 x] : List Value), u.oneCell' = true := by simp [Value.oneCell']
  have h1c : ∀ u ∈ encI xs, u.oneCell' = true := by
    intro u hu
    obtain ⟨y, _, rfl⟩ := List.mem_map.1 hu
    rfl
  have hmx : maxLen = 9223372036854775807 := rfl
  have ho := Kd.own_of_R h
  rcases ho with ⟨_, ⟨rfl, h0⟩ | ⟨g, cap, cur, rfl, hg, hh, hnc, hcm, hcs, htake⟩⟩
  · have hxs : xs = [] := List.eq_nil_of_length_eq_zero h0
    subst hxs
    have hk0 : k = 0 := by simpa using hk
    subst hk0
    refine (Any2.slices_Insert_int_end_grow laysNm221 none 0 0 vb 0 1 1 [] [.int .i64 x] w (by omega) (Nat.le_refl _) (by omega) (by omega) rfl rfl (fun _ => rfl) (fun a ha => by cases ha) hvs h1v).mono ?_
    rintro e w' ⟨he, hw⟩
    rw [show laysNm221_ren.t 3 = 3 from rfl] at he hw
    subst he
    subst hw
    refine ⟨_, rfl, ?_, Mk.ofBelow (((Below.refl _ _).drew).alloc (by simp) _)⟩
    refine R_block (g := w.heap.size) (cur := _) (by have := blk_new w.drew (.cells ((([] : List Value) ++ [Value.int .i64 x]).toArray ++ Builtin.zeroCells (Value.int .i64 0).cells (grownCap w (0 + 1) 0 3 - (0 + 1))) 3); simpa using this) hB (.inr (Nat.le_refl _)) (by simp [putAt]) (grownCap_ge _ _ _ _) (grownCap_le_maxLen _ _ _ _ (by rw [hmx]; omega)) ?_ ?_
    · have := grownCap_ge w (0 + 1) 0 3
      rw [Array.size_append, zeroCells_size]
      simp at this ⊢
      omega
    · simp [putAt, encs]
  · rw [Nat.mul_one] at hcs htake
    have htake : cur.toList.take xs.length = encI xs := htake
    have hgw : g < w.heap.size := blk_lt hh
    have ht0 : (encI xs).take xs.length = encI xs := List.take_of_length_le (by simp [encs])
    have hd0 : (encI xs).drop xs.length = [] := List.drop_eq_nil_of_le (by simp [encs])
    have hPg : P1 g := h.1 g rfl
    have hgv : vb ≠ g := fun e => hne (by rw [e]; rfl)
    have hcell : ∀ j, j < cap → w.cell? ⟨g, 0 + j, none⟩ = some (cur[j]?.getD (.int .i64 0)) := by
      intro j hj
      rw [Nat.zero_add]
      refine (blk_cell hh j).trans ?_
      rw [Array.getElem?_eq_getElem (by omega)]
      rfl
    have hcs1 : ∀ j u, (encI xs)[j]? = some u → w.cell? ⟨g, 0 + j, none⟩ = some u := by
      intro j u hj
      have hjl : j < xs.length := by
        have := (List.getElem?_eq_some_iff.1 hj).1
        rwa [encI_len] at this
      rw [← htake, List.getElem?_take_of_lt hjl] at hj
      rw [Nat.zero_add]
      refine (blk_cell hh j).trans ?_
      rw [← hj]
      simp
    have hfz : ∀ j, w.frozen? ⟨g, 0 + j, none⟩ = false := fun j => blk_frozen hh _
    by_cases hkn : k = xs.length
    · subst hkn
      by_cases hroom : xs.length + 1 ≤ cap
      · refine (Any2.slices_Insert_int_end_room laysNm221 g 0 xs.length cap vb 0 1 1 [.int .i64 x] w (by omega) hroom (by rw [hmx] at hcm; omega) rfl (fun j hj => by rw [show 0 + xs.length + j = 0 + (xs.length + j) from by omega, hcell _ (by omega)]; rfl) (fun j _ => by rw [show 0 + xs.length + j = 0 + (xs.length + j) from by omega]; exact hfz _) hvs h1v).mono ?_
        rintro e w' ⟨rfl, rfl⟩
        obtain ⟨cur', hc1, hc2, hc3⟩ := setCells_row (g := g) (e := 3) [.int .i64 x] (0 + xs.length) w cur hh (by simp; omega)
        refine ⟨_, rfl, R_block hc1 hg (.inl hPg) (putAt_len _ _ _ (Nat.le_refl _)) hroom hcm (by rw [hc2, hcs]) ?_, Mk.setCells (by simp [obs, Value.ownBlock]) _ _ _⟩
        rw [hc3, Nat.zero_add, htake, encI_putAt, ht0, hd0]
        rw [List.take_append_of_le_length (by simp [encs]), List.take_of_length_le (by simp [encs])]
      · refine (Any2.slices_Insert_int_end_grow laysNm221 (some ⟨g, 0, none⟩) xs.length cap vb 0 1 1 (encI xs) [.int .i64 x] w (by omega) hnc (by omega) (by omega) (encI_len _) rfl (fun ha => by cases ha) (fun a ha j u hj => by cases ha; rw [Addr.add_lit]; exact hcs1 j u hj) hvs h1v).mono ?_
        rintro e w' ⟨he, hw⟩
        rw [show laysNm221_ren.t 3 = 3 from rfl] at he hw
        subst he
        subst hw
        refine ⟨_, rfl, ?_, Mk.ofBelow (((Below.refl _ _).drew).alloc (by simp) _)⟩
        refine R_block (g := w.heap.size) (cur := _) (by have := blk_new w.drew (.cells ((encI xs ++ [Value.int .i64 x]).toArray ++ Builtin.zeroCells (Value.int .i64 0).cells (grownCap w (xs.length + 1) cap 3 - (xs.length + 1))) 3); simpa using this) hB (.inr (Nat.le_refl _)) (putAt_len _ _ _ (Nat.le_refl _)) (grownCap_ge _ _ _ _) (grownCap_le_maxLen _ _ _ _ (by rw [hmx]; omega)) ?_ ?_
        · have := grownCap_ge w (xs.length + 1) cap 3
          rw [Array.size_append, zeroCells_size]
          simp [encs]
          omega
        · rw [Array.toList_append, encI_putAt, ht0, hd0]
          rw [List.take_append_of_le_length (by simp [encs]), List.take_of_length_le (by simp [encs])]
    · have hi : k < xs.length := by omega
      by_cases hroom : xs.length + 1 ≤ cap
      · refine (Any2.slices_Insert_int_shift laysNm221 g 0 xs.length cap k vb 0 1 1 (encI xs) [.int .i64 x] w hi (by omega) hroom (by rw [hmx] at hcm; omega) hgv (encI_len _) rfl hcs1 (fun j hj => by rw [hcell _ (by omega)]; rfl) (fun j _ => hfz _) hvs h1c h1v 3 3 1 cap (by simp [World.shape?, hx]) (by simp [World.shape?, hh, hcs]) (by omega) (blk_frozen hx _) (blk_frozen hx _)).mono ?_
        rintro e w' ⟨rfl, rfl⟩
        have hhd : w.drew.heap[g]? = some (.cells cur 3 (0, 0)) := blk_drew hh
        obtain ⟨cur1, hc1, hc2, hc3⟩ := setCells_row (g := g) (e := 3) ((encI xs).drop k) (0 + (k + 1)) w.drew cur hhd (by simp [encs]; omega)
        obtain ⟨cur2, hd1, hd2, hd3⟩ := setCells_row (g := g) (e := 3) [.int .i64 x] (0 + k) _ cur1 hc1 (by simp; omega)
        refine ⟨_, rfl, R_block hd1 hg (.inl hPg) (putAt_len _ _ _ hk) hroom hcm (by rw [hd2, hc2, hcs]) ?_, ((Mk.ofBelow (Below.refl _ _).drew).trans (Mk.setCells (by simp [obs, Value.ownBlock]) _ _ _)).trans (Mk.setCells (by simp [obs, Value.ownBlock]) _ _ _)⟩
        rw [hd3, hc3, encI_putAt]
        simp only [Nat.zero_add]
        have hl : cur.toList.length = cap := by rw [Array.length_toList, hcs]
        have e1 : ((cur.toList.take (k + 1) ++ (encI xs).drop k) ++ cur.toList.drop (k + 1 + ((encI xs).drop k).length)).take k = (encI xs).take k := by
          rw [List.append_assoc, List.take_append_of_le_length (by rw [List.length_take]; omega), List.take_take, ← htake, List.take_take]
          congr 1
          omega
        have e2 : ((cur.toList.take (k + 1) ++ (encI xs).drop k) ++ cur.toList.drop (k + 1 + ((encI xs).drop k).length)).drop (k + [Value.int .i64 x].length) = (encI xs).drop k ++ cur.toList.drop (k + 1 + ((encI xs).drop k).length) := by
          rw [List.append_assoc, List.drop_append_of_le_length (by simp; omega)]
          rw [List.drop_eq_nil_of_le (by simp; omega)]
          rfl
        rw [e1, e2]
        have hkl : ((encI xs).take k).length = k := by simp [encs]; omega
        rw [List.append_assoc, List.singleton_append, ← List.cons_append, ← List.append_assoc, List.take_append_of_le_length (by simp [encs]; omega), List.take_of_length_le (by simp [encs]; omega)]
      · refine (Any2.slices_Insert_int_grow laysNm221 g 0 xs.length cap k vb 0 1 1 (encI xs) [.int .i64 x] w hi (by omega) hnc (by omega) (by omega) (encI_len _) rfl hcs1 hvs h1c h1v).mono ?_
        rintro e w' ⟨he, hw⟩
        rw [show laysNm221_ren.t 3 = 3 from rfl] at he hw
        subst he
        subst hw
        have hcap := grownCap_ge w (xs.length + 1) cap 3
        have h0 := blk_new w (.cells (((encI xs).take k).toArray ++ Builtin.zeroCells (Value.int .i64 0).cells (xs.length + 1 - k) ++ Builtin.zeroCells (Value.int .i64 0).cells (grownCap w (xs.length + 1) cap 3 - (xs.length + 1))) 3)
        have hsz : (((encI xs).take k).toArray ++ Builtin.zeroCells (Value.int .i64 0).cells (xs.length + 1 - k) ++ Builtin.zeroCells (Value.int .i64 0).cells (grownCap w (xs.length + 1) cap 3 - (xs.length + 1))).size = grownCap w (xs.length + 1) cap 3 := by
          rw [Array.size_append, Array.size_append, zeroCells_size, zeroCells_size]
          simp [encs]
          omega
        obtain ⟨cur1, hc1, hc2, hc3⟩ := setCells_row (g := w.heap.size) (e := 3) [.int .i64 x] k _ _ (blk_drew h0) (by rw [hsz]; simp; omega)
        obtain ⟨cur2, hd1, hd2, hd3⟩ := setCells_row (g := w.heap.size) (e := 3) ((encI xs).drop k) (k + 1) _ _ (blk_drew hc1) (by rw [hc2, hsz]; simp [encs]; omega)
        refine ⟨_, rfl, R_block hd1 hB (.inr (Nat.le_refl _)) (putAt_len _ _ _ hk) hcap (grownCap_le_maxLen _ _ _ _ (by rw [hmx]; omega)) (by rw [hd2, hc2, hsz]) ?_, Mk.ofBelow ?_⟩
        · rw [hd3, hc3, encI_putAt, Array.toList_append, Array.toList_append, zeroCells_list, zeroCells_list, List.toList_toArray]
          have hkl : ((encI xs).take k).length = k := by simp [encs]; omega
          generalize hA : (encI xs).take k = A at hkl ⊢
          generalize hD : (encI xs).drop k = D
          have hDl : D.length = xs.length - k := by rw [← hD]; simp [encs]
          have e1 : (A ++ List.replicate (xs.length + 1 - k) (Value.int .i64 0) ++ List.replicate (grownCap w (xs.length + 1) cap 3 - (xs.length + 1)) (Value.int .i64 0)).take k = A := by
            rw [List.append_assoc, List.take_append_of_le_length (by omega), List.take_of_length_le (by omega)]
          rw [e1]
          have e2 : ((A ++ [Value.int .i64 x]) ++ List.drop (k + [Value.int .i64 x].length) (A ++ List.replicate (xs.length + 1 - k) (Value.int .i64 0) ++ List.replicate (grownCap w (xs.length + 1) cap 3 - (xs.length + 1)) (Value.int .i64 0))).take (k + 1) = A ++ [Value.int .i64 x] := by
            rw [List.take_append_of_le_length (by simp; omega), List.take_of_length_le (by simp; omega)]
          rw [e2, List.append_assoc A, List.singleton_append, List.append_assoc, List.cons_append]
          rw [show ∀ (Z : List Value), A ++ Value.int .i64 x :: (D ++ Z) = (A ++ Value.int .i64 x :: D) ++ Z from fun Z => by simp]
          rw [List.take_append_of_le_length (by simp; omega), List.take_of_length_le (by simp; omega)]
        · have hb0 : Below w.heap.size w (w.alloc (.cells (((encI xs).take k).toArray ++ Builtin.zeroCells (Value.int .i64 0).cells (xs.length + 1 - k) ++ Builtin.zeroCells (Value.int .i64 0).cells (grownCap w (xs.length + 1) cap 3 - (xs.length + 1))) 3)) := below_new _ _
          exact below_cells (below_cells hb0.drew (Nat.le_refl _) _ _).drew (Nat.le_refl _) _ _
/-- A set with a number. -/
def putS (l : List Int) (x : Int) : List Int := if x ∈ l then l else putAt l (l.countP (· < x)) x
set_option maxHeartbeats 1000000 in
theorem bsearch_any (xs : List Int) (x : Int) (v : Value) (B : Nat) (P1 : Nat → Prop) (w : World) (h : kI.R 3 w B P1 v xs) (hs : xs.Pairwise (· < ·)) (hlen : xs.length ≤ 1000000) :
    Calls Try.prog 88 #[v, .int .i64 x] w (fun e w' => e = .returned (.tuple #[.int .i64 (xs.countP (· < x) : Nat), .bool (decide (x ∈ xs))]) ∧ Below w.heap.size w w') := by
  have ho := Kd.own_of_R h
  rcases ho with ⟨_, ⟨rfl, h0⟩ | ⟨g, cap, cur, rfl, hg, hh, hnc, hcm, hcs, htake⟩⟩
  · have hxs : xs = [] := List.eq_nil_of_length_eq_zero h0
    subst hxs
    refine (Any.slices_BinarySearch_int_empty laysNm225 none 0 x w).mono ?_
    rintro e w' ⟨rfl, rfl⟩
    exact ⟨by simp, Below.refl _ _⟩
  · rw [Nat.mul_one] at htake
    refine (Any.slices_BinarySearch_int laysNm225 g 0 xs.length cap xs x w (Nat.le_refl _) (by omega) (fun j hj => ?_) (by rw [List.take_length]; exact hs.imp (fun h => Int.le_of_lt h))).mono ?_
    · rw [Nat.zero_add]
      have h1 := congrArg (fun l => l[j]?) htake
      simp only [List.getElem?_take_of_lt hj] at h1
      refine (blk_cell hh j).trans ?_
      rw [← Array.getElem?_toList, h1]
      simp [encs, List.getD_eq_getElem?_getD, List.getElem?_eq_getElem hj]
    · rintro e w' ⟨rfl, q, rfl⟩
      refine ⟨by rw [List.take_length, List.contains_eq_mem], pw_below_drewN (Below.refl _ _) _⟩
set_option maxHeartbeats 1000000 in
theorem withScope_any (xs : List Int) (x : Int) (v : Value) (B : Nat) (P1 : Nat → Prop) (w : World) (h : kI.R 3 w B P1 v xs) (hB : B ≤ w.heap.size) (hs : xs.Pairwise (· < ·)) (hlen : xs.length ≤ 1000000) :
    Calls Try.prog 76 #[v, .int .i64 x] w (fun e w' => ∃ v', e = .returned v' ∧ kI.R 3 w' B (fun b => P1 b ∨ w.heap.size ≤ b) v' (putS xs x) ∧ Mk (obs v) w w') := by
  have HC := Lib.hid (bsearch_any xs x v B P1 w h hs hlen)
  have HR := Aside0.mk h
  obtain ⟨A, c, rfl⟩ := Kd.R_slice h
  have hcl := List.countP_le_length (p := fun y => decide (y < x)) (l := xs)
  clear h hs
  by_cases hx : x ∈ xs
  · have HX := Lib.hid hx
    rw [decide_eq_true hx] at HC
    clear hx
    go_enter Try.func76, Try.ntmps76
    go_wp2_with fail
    refine HC.out.mono ?_
    rintro e w1 ⟨rfl, hb1⟩
    go_wp2_with fail
    go_ret
    refine ⟨_, rfl, ?_, Mk.ofBelow hb1⟩
    rw [putS, if_pos HX.out]
    exact Kd.R_mono (Kd.R_below HR.out hb1) (fun _ h => .inl h)
  · have HX := Lib.hid hx
    rw [decide_eq_false hx] at HC
    clear hx
    go_enter Try.func76, Try.ntmps76
    go_wp2_with fail
    refine HC.out.mono ?_
    rintro e w1 ⟨rfl, hb1⟩
    have HB1 := Lib.hid hb1
    have HL := Lib.hid (Kd.R_lt HR.out)
    clear hb1
    go_wp2_with fail
    refine (insertI_any xs x (xs.countP (· < x)) (.slice A xs.length c) B P1 _ w1.heap.size (Kd.R_alloc (Kd.R_below HR.out HB1.out) _) hcl (by have := HB1.out.size; simp; omega) (by simpa using blk_new w1 (.cells #[.int .i64 x] 3)) (fun e => by have := HL.out _ e; have := HB1.out.size; omega) hlen).mono ?_
    rintro e w2 ⟨v', rfl, hR, hM⟩
    have HF := Lib.hid (And.intro hR hM)
    clear hR hM
    go_wp2_with fail
    go_ret
    refine ⟨_, rfl, ?_, (Mk.ofBelow (below_step HB1.out (below_new _ _))).trans HF.out.2⟩
    rw [putS, if_neg HX.out]
    refine Kd.R_mono HF.out.1 (fun b hb => hb.imp id (fun h => ?_))
    have := HB1.out.size
    simp at h
    omega
end Go.Proofs.Ytcbomlmlindjdaa
end
section
namespace Go.Proofs.Ytcbomlmlindjdaa
open Go.RowKit Go.Proofs.YtcbomlmlindjdaaW.PrintWords Go.Proofs.YtcbomlmlindjdaaW.PrintLast Go.Proofs.YtcbomlmlindjdaaW.PrintMore
set_option linter.unusedVariables false
set_option linter.unusedSimpArgs false

theorem infoF : (Try.prog.info? 30).map (fun i => (i.zero, i.size, i.bytes)) = some (some (.agg #[(.int .i64 0), (.string ⟨#[]⟩), (.int .i64 0), (.slice none 0 0), (.slice none 0 0)]), 5, 80) := by kernel_rfl
/-- A form in new memory, from block B on. -/
def NewF (B : Nat) (w' : World) (x : Fm) (v3 v4 : Value) : Prop := ∃ fp, TrF w' x v3 v4 fp ∧ fp.Nodup ∧ ∀ b, b ∈ fp → B ≤ b
/-- A list of forms in new memory, from block B on. -/
def NewL (B : Nat) (w' : World) (ks : List Fm) (v : Value) : Prop := ∃ inner fp, w'.ownsRow 0 30 5 v ks.length inner ∧ TrL w' ks inner fp ∧ (obs v ++ fp).Nodup ∧ ∀ b, b ∈ obs v ++ fp → B ≤ b
def RetF (w : World) (x : Fm) (e : Ending) (w' : World) : Prop := ∃ v3 v4, e = .returned (.agg #[.int .i64 x.f0, .string x.f1, .int .i64 x.f2, v3, v4]) ∧ NewF w.heap.size w' x v3 v4 ∧ Below w.heap.size w w'
def RetL (w : World) (ks : List Fm) (e : Ending) (w' : World) : Prop := ∃ v, e = .returned v ∧ NewL w.heap.size w' ks v ∧ Below w.heap.size w w'

/-- As the print tells what is the call's own. -/
theorem TrF.R {w : World} {B : Nat} : ∀ (x : Fm) {v3 v4 : Value} {fp : List Nat} {ok : Nat → Prop}, TrF w x v3 v4 fp → fp.Nodup → (∀ b, b ∈ fp → B ≤ b) → (∀ b, b ∈ fp → ok b) → kI.R 3 w B ok v3 x.f3 ∧ kF.R 30 w B (fun k => ok k ∧ some k ≠ v3.ownBlock) v4 x.f4 := by
  intro x
  induction x using Fm.ind with
  | h x ih =>
    intro v3 v4 fp ok h hnd hge hok
    obtain ⟨inner, fk, rfl, h3, h4, hk⟩ := h.open
    obtain ⟨n1, n2, n3⟩ := List.nodup_append.1 hnd
    obtain ⟨n4, n5, n6⟩ := List.nodup_append.1 n2
    refine ⟨Kd.R_of_own (own_base_ h3 (fun b hb => hge b (by simp [obs_mem, hb]))) (fun k hk => hok k (by simp [obs_mem, hk])), fun k hk => ⟨hok k (by simp [obs_mem, hk]), fun he => n3 k (obs_mem.2 he.symm) k (by simp [obs_mem, hk]) rfl⟩, inner, own_base_ h4 (fun b hb => hge b (by simp [obs_mem, hb])), ?_⟩
    have key : ∀ (ks : List Fm), (∀ k, k ∈ ks → k ∈ x.f4) → ∀ {inner : List Value} {fk : List Nat}, TrL w ks inner fk → fk.Nodup → (∀ b, b ∈ fk → B ≤ b) → (∀ b, b ∈ fk → ok b ∧ some b ≠ v3.ownBlock ∧ some b ≠ v4.ownBlock) → Reps (kF.M w B (fun k => (ok k ∧ some k ≠ v3.ownBlock) ∧ some k ≠ v4.ownBlock)) 5 ks inner := by
      intro ks
      induction ks with
      | nil => intro _ inner fk h _ _ _; obtain ⟨rfl, rfl⟩ := h.nil_inv; exact Reps.none _ _
      | cons k ks ih2 =>
        intro hsub inner fk h hnd hge hok
        obtain ⟨u3, u4, rest, f1, f2, rfl, rfl, hk, hs⟩ := h.cons_inv
        obtain ⟨m1, m2, m3⟩ := List.nodup_append.1 hnd
        have hR := ih k (hsub k List.mem_cons_self) (ok := fun k => (ok k ∧ some k ≠ v3.ownBlock) ∧ some k ≠ v4.ownBlock) hk m1 (fun b hb => hge b (List.mem_append_left _ hb)) (fun b hb => ⟨⟨(hok b (List.mem_append_left _ hb)).1, (hok b (List.mem_append_left _ hb)).2.1⟩, (hok b (List.mem_append_left _ hb)).2.2⟩)
        have hr := ih2 (fun k hk => hsub k (List.mem_cons_of_mem _ hk)) hs m2 (fun b hb => hge b (List.mem_append_right _ hb)) (fun b hb => hok b (List.mem_append_right _ hb))
        refine ⟨by rw [List.length_append, hr.1]; simp; omega, fun j p hj => ?_⟩
        cases j with
        | zero =>
          have : k = p := by simpa using hj
          subst this
          simpa using kF_mkM hR.1 (Kd.R_mono hR.2 (fun _ h => h.1))
        | succ j =>
          have h2 := hr.2 j p (by simpa using hj)
          rw [show (j + 1) * 5 = 5 + j * 5 from by omega, ← List.drop_drop]
          simpa using h2
    refine key x.f4 (fun _ h => h) hk n5 (fun b hb => hge b (by simp [hb])) (fun b hb => ⟨hok b (by simp [hb]), fun he => n3 b (obs_mem.2 he.symm) b (by simp [hb]) rfl, fun he => n6 b (obs_mem.2 he.symm) b hb rfl⟩)
abbrev zc : List Value := [.int .i64 0, .string ⟨#[]⟩, .int .i64 0, .slice none 0 0, .slice none 0 0]
end Go.Proofs.Ytcbomlmlindjdaa
end
section
namespace Go.Proofs.Ytcbomlmlindjdaa
open Go.RowKit Go.Proofs.YtcbomlmlindjdaaW.PrintWords Go.Proofs.YtcbomlmlindjdaaW.PrintLast Go.Proofs.YtcbomlmlindjdaaW.PrintMore
set_option linter.unusedVariables false
set_option linter.unusedSimpArgs false
/-- How a function tells of a form in new memory: from block B on. -/
structure Tells where
  T : Nat → World → Fm → Value → Value → Prop
  move : ∀ {B w w' x v3 v4}, T B w x v3 v4 → (∀ b, B ≤ b → w'.heap[b]? = w.heap[b]?) → T B w' x v3 v4
  low : ∀ {B B' w x v3 v4}, B' ≤ B → T B w x v3 v4 → T B' w x v3 v4
  form : ∀ {B w x v3 v4}, T B w x v3 v4 → ∃ A c B d, v3 = .slice A x.f3.length c ∧ v4 = .slice B x.f4.length d
def RetT (t : Tells) (w : World) (p : Fm × Bool) (e : Ending) (w' : World) : Prop := ∃ v3 v4, e = .returned (.tuple #[.agg #[.int .i64 p.1.f0, .string p.1.f1, .int .i64 p.1.f2, v3, v4], .bool p.2]) ∧ t.T w.heap.size w' p.1 v3 v4 ∧ Below w.heap.size w w'
def tellsNew : Tells where
  T := NewF
  move := by
    rintro B w w' x v3 v4 ⟨fp, ht, hn, hg⟩ hm
    exact ⟨fp, ht.move x (fun b hb => hm b (hg b hb)), hn, hg⟩
  low := by
    rintro B B' w x v3 v4 hb ⟨fp, ht, hn, hg⟩
    exact ⟨fp, ht, hn, fun b h => Nat.le_trans hb (hg b h)⟩
  form := by
    rintro B w x v3 v4 ⟨fp, ht, hn, hg⟩
    obtain ⟨A3, c3, A4, c4, e3, e4, _⟩ := ht.In
    exact ⟨A3, c3, A4, c4, e3, e4⟩
def tellsR : Tells where
  T := fun B w x v3 v4 => kI.R 3 w B (fun _ => True) v3 x.f3 ∧ kF.R 30 w B (fun k => some k ≠ v3.ownBlock) v4 x.f4
  move := by
    rintro B w w' x v3 v4 ⟨h3, h4⟩ hm
    have h3' := Kd.R_mono (Kd.R_move (Kd.R_bound h3) (fun k hk => hm k hk.2.1)) (fun _ _ => trivial)
    exact ⟨h3', Kd.R_mono (Kd.R_move (Kd.R_bound h4) (fun k hk => hm k hk.2.1)) (fun _ hk => hk.1)⟩
  low := by
    rintro B B' w x v3 v4 hb ⟨h3, h4⟩
    exact ⟨Kd.R_lower h3 hb, Kd.R_lower h4 hb⟩
  form := by
    rintro B w x v3 v4 ⟨h3, h4⟩
    obtain ⟨A, c, e3⟩ := Kd.R_slice h3
    obtain ⟨A2, c2, e4⟩ := Kd.R_slice h4
    exact ⟨A, c, A2, c2, e3, e4⟩
/-- What a mover leaves, as_ the print tells it. -/
theorem Mk.kept {v : Value} {w w' : World} {P1 : Nat → Prop} (h : Mk (obs v) w w') (hp : ∀ k, v.ownBlock = some k → P1 k) : Kept w w' (fun k => P1 k) := ⟨h.b0.size, fun i hi hn => h.keep i hi (fun hm => hn (hp i (obs_mem.1 hm)))⟩
theorem Mk.below_own {v : Value} {wb w w' : World} (h : Mk (obs v) w w') (hB : Below wb.heap.size wb w) (hv : ∀ k, v.ownBlock = some k → wb.heap.size ≤ k) : Below wb.heap.size wb w' := hB.trans (h.below hB.size (fun b hb => hv b (obs_mem.1 hb)))
/-- A set with a number put in or taken out. -/
def flipS (l : List Int) (n : Int) : List Int := if n ∈ l then l.filter (fun y => !(y == n)) else putS l n
/-- AddScope's closure as_ a function value: the number lies in block g of w0. -/
noncomputable def fvAddScope (n : Int) (g : Nat) (w0 : World) (hg : w0.cell? ⟨g, 0, none⟩ = some (.int .i64 n)) : Fv where
  g := 75
  lb := #[.pointer (some ⟨g, 0, none⟩)]
  w0 := w0
  f := fun l => gIf (l.Pairwise (· < ·) ∧ l.length ≤ 1000000) (putS l n)
  eg := enters_of Try.func75 (by kernel_rfl) rfl
  ok := by
    intro P1 u l r wb w hB hR h0 hf
    have hc : w.cell? ⟨g, 0, none⟩ = some (.int .i64 n) := ck0 hB (ck0 h0 hg)
    have hsz := hB.size
    have hbase := Kd.R_base hR
    obtain ⟨⟨hs, hl⟩, rfl⟩ := gIf_some hf
    have HC := Lib.hid (withScope_any l n u wb.heap.size P1 w hR hsz hs hl)
    have HF := Lib.hid (And.intro hR (And.intro hB hbase))
    obtain ⟨A, c, rfl⟩ := Kd.R_slice hR
    clear hR hB h0 hbase
    show Calls Try.prog 75 #[.slice A l.length c, .pointer (some ⟨g, 0, none⟩)] w _
    go_enter Try.func75, Try.ntmps75
    go_wp2_with fail
    refine HC.out.mono ?_
    rintro e w1 ⟨v', rfl, hR1, hM1⟩
    have HG := Lib.hid (And.intro hR1 hM1)
    clear hR1 hM1
    go_wp2_with fail
    go_ret
    exact ⟨_, rfl, HG.out.1, HG.out.2.below_own HF.out.2.1 HF.out.2.2, HG.out.2.kept HF.out.1.1⟩
end Go.Proofs.Ytcbomlmlindjdaa
end
section
namespace Go.Proofs.Ytcbomlmlindjdaa
open Go.RowKit Go.Proofs.YtcbomlmlindjdaaW.PrintWords Go.Proofs.YtcbomlmlindjdaaW.PrintLast Go.Proofs.YtcbomlmlindjdaaW.PrintMore
set_option linter.unusedVariables false
set_option linter.unusedSimpArgs false
set_option maxHeartbeats 1000000 in
theorem l1Count_any : ∀ (x : Fm) (A3 : Option Addr) (c3 : Nat) (A4 : Option Addr) (c4 : Nat) (w : World), FmIn w x A3 c3 A4 c4 → x.size < 4611686018427387904 →
    Calls Try.prog 92 #[.agg #[.int .i64 x.f0, .string x.f1, .int .i64 x.f2, .slice A3 x.f3.length c3, .slice A4 x.f4.length c4]] w (Ret w (.int .i64 x.size)) := by
  intro x
  induction x using Fm.ind with
  | h x ih =>
    intro A3 c3 A4 c4 w hin hsz
    have hmax := hin.g4.2.1
    have hse := Fm.size_eq x
    have HS := Lib.hid hse
    have hszl : sizes x.f4 < 4611686018427387904 := by omega
    clear hse hsz
    go_enter Try.func92, Try.ntmps92
    go_wp2_with fail
    go_loopg [3, 4] x.f4.length (fun kq v3 v4 w' => ∃ i : Nat, i ≤ x.f4.length ∧ x.f4.length - i ≤ kq ∧ v4 = .int .i64 i ∧ v3 = .int .i64 ((1 + sizes (x.f4.take i) : Nat) : Int) ∧ Aside0 (w'.heap[w.heap.size]? = some (.cells #[.int .i64 x.f0, .string x.f1, .int .i64 x.f2, .slice A3 x.f3.length c3, .slice A4 x.f4.length c4] 30 (0, 0))) ∧ Aside0 (Below w.heap.size w w'))
    case atStart => exact ⟨0, Nat.zero_le _, by omega, rfl, by simp [sizes], ⟨blk_new w _⟩, ⟨below_new w _⟩⟩
    case round =>
      obtain ⟨i, hi, hg, rfl, rfl, HB, HW⟩ := hrel
      obtain ⟨q0, q1, q2, q3, q4⟩ := fm_cells HB.out
      by_cases hlt : i < x.f4.length
      · obtain ⟨ad, B3, d3, B4, d4, e, h0, h1, h2, h3, h4, hk⟩ := kid_at (Kd.C_below hin.g4 HW.out) i hlt
        have hle := sizes_take_le x.f4 (i + 1)
        rw [sizes_take _ _ hlt] at hle
        have HC := Lib.hid (ih x.f4[i] (List.getElem_mem hlt) B3 d3 B4 d4 wr hk (by omega))
        clear hk ih
        subst e
        go_wp2_with fail
        refine HC.out.mono ?_
        rintro e w1 ⟨rfl, hb1⟩
        go_wp2_with fail
        go_roundg (x.f4.length - (i + 1))
        case measure => omega
        case rel =>
          refine ⟨i + 1, by omega, Nat.le_refl _, by go_num, ?_, ⟨blk_below HB.out hb1⟩, ⟨below_step HW.out hb1⟩⟩
          rw [sizes_take _ _ hlt]; go_num
      · have he : i = x.f4.length := by omega
        subst he
        go_wp2_with fail
        go_ret
        refine ⟨?_, HW.out⟩
        rw [List.take_length, HS.out]
        rfl
end Go.Proofs.Ytcbomlmlindjdaa
end
section
namespace Go.Proofs.Ytcbomlmlindjdaa
open Go.RowKit Go.Proofs.YtcbomlmlindjdaaW.PrintWords Go.Proofs.YtcbomlmlindjdaaW.PrintLast Go.Proofs.YtcbomlmlindjdaaW.PrintMore
set_option linter.unusedVariables false
set_option linter.unusedSimpArgs false
def IsOk : Nat → Fm → Prop
  | 0, _ => False
  | n + 1, x => (x.f0 = 1 ∧ NmOk x.f1 ∧ x.f2 = 0 ∧ ScOk x.f3 ∧ x.f4.length = 0) ∨ (x.f0 = 2 ∧ x.f1.toList = [] ∧ 0 ≤ x.f2 ∧ x.f2 ≤ 999 ∧ x.f3.length = 0 ∧ x.f4.length = 0) ∨ (x.f0 = 3 ∧ x.f1.toList = [] ∧ x.f2 = 0 ∧ x.f3.length = 0 ∧ ∀ k, k ∈ x.f4 → IsOk n k)
theorem isOk1 {n : Nat} {x : Fm} (h : x.f0 = 1) : IsOk (n + 1) x ↔ NmOk x.f1 ∧ x.f2 = 0 ∧ ScOk x.f3 ∧ x.f4.length = 0 := by
  unfold IsOk
  constructor
  · rintro (⟨_, h⟩ | ⟨h2, _⟩ | ⟨h2, _⟩)
    · exact h
    · omega
    · omega
  · exact fun h2 => .inl ⟨h, h2⟩
theorem isOk2 {n : Nat} {x : Fm} (h : x.f0 = 2) : IsOk (n + 1) x ↔ x.f1.toList = [] ∧ 0 ≤ x.f2 ∧ x.f2 ≤ 999 ∧ x.f3.length = 0 ∧ x.f4.length = 0 := by
  unfold IsOk
  constructor
  · rintro (⟨h2, _⟩ | ⟨_, h⟩ | ⟨h2, _⟩)
    · omega
    · exact h
    · omega
  · exact fun h2 => .inr (.inl ⟨h, h2⟩)
theorem isOk3 {n : Nat} {x : Fm} (h1 : x.f0 ≠ 1) (h2 : x.f0 ≠ 2) : IsOk (n + 1) x ↔ x.f0 = 3 ∧ x.f1.toList = [] ∧ x.f2 = 0 ∧ x.f3.length = 0 ∧ ∀ k, k ∈ x.f4 → IsOk n k := by
  conv => lhs; unfold IsOk
  constructor
  · rintro (⟨h, _⟩ | ⟨h, _⟩ | h)
    · exact absurd h h1
    · exact absurd h h2
    · exact h
  · exact fun h => .inr (.inr h)
theorem name_size {x : Fm} (h : x.tot ≤ 1048576) : x.f1.size ≤ 140737488351232 := by rw [Fm.tot_eq] at h; omega
theorem kid_tot {x k : Fm} (h : x.tot ≤ 1048576) (hk : k ∈ x.f4) : k.tot ≤ 1048576 := by
  have := totL_mem hk
  rw [Fm.tot_eq] at h
  omega
set_option maxHeartbeats 4000000 in
set_option maxRecDepth 100000 in
theorem l1Is_any : ∀ (n : Nat) (x : Fm) (A3 : Option Addr) (c3 : Nat) (A4 : Option Addr) (c4 : Nat) (m : Int) (w : World), m = n → n ≤ 1000 → FmIn w x A3 c3 A4 c4 → x.tot ≤ 1048576 →
    Calls Try.prog 91 #[.agg #[.int .i64 x.f0, .string x.f1, .int .i64 x.f2, .slice A3 x.f3.length c3, .slice A4 x.f4.length c4], .int .i64 m] w (Ret w (.bool (pB (IsOk n x)))) := by
  intro n
  induction n with
  | zero =>
    intro x A3 c3 A4 c4 m w hm hn hin ht
    have tm : (m == 0) = true := by rw [beq_iff_eq]; omega
    clear hin ht hm
    go_enter Try.func91, Try.ntmps91
    go_wp2_with fail
    go_ret
    exact ⟨ret_b (pB_no (fun h => h)), below_new w _⟩
  | succ n ih =>
    intro x A3 c3 A4 c4 m w hm hn hin ht
    have tm : (m == 0) = false := by rw [beq_eq_false_iff_ne]; omega
    have m1 : -1000 ≤ m := by omega
    have m2 : m ≤ 1001 := by omega
    have HM := Lib.hid hm
    have HI := Lib.hid hin
    have HT := Lib.hid ht
    have IH := Lib.hid ih
    have hmax := hin.g4.2.1
    have HN := Lib.hid (specName_any x.f1 (w.alloc (.cells #[.int .i64 x.f0, .string x.f1, .int .i64 x.f2, .slice A3 x.f3.length c3, .slice A4 x.f4.length c4] 30)) (name_size ht))
    clear hm hin ht ih hn
    by_cases k1 : x.f0 = 1
    · have e1 : (x.f0 == 1) = true := by simpa using k1
      have K1 := Lib.hid k1
      clear k1
      go_enter Try.func91, Try.ntmps91
      go_wp2_with fail
      refine HN.out.mono ?_
      rintro e w1 ⟨rfl, hb1⟩
      obtain ⟨z1, b1⟩ := one_new hb1
      obtain ⟨p0, p1, p2, p3, p4⟩ := fm_cells z1
      have B1 := Lib.hid b1
      have HS := Lib.hid (l1Scopes_any x.f3 A3 c3 w1 (Kd.C_below HI.out.g3 b1) HI.out.l3)
      clear hb1 b1
      cases hq : nmB x.f1 with
      | false =>
        have HQ := Lib.hid hq
        clear hq
        go_wp2_with fail
        go_ret
        exact ⟨ret_b (pB_no (fun h => by have := nmB_t ((isOk1 K1.out).1 h).1; rw [HQ.out] at this; cases this)), B1.out⟩
      | true =>
        have HQ := Lib.hid hq
        clear hq
        by_cases h2 : x.f2 = 0
        · have t2 : (x.f2 == 0) = true := by simpa using h2
          have H2 := Lib.hid h2
          clear h2
          go_wp2_with fail
          refine HS.out.mono ?_
          rintro e w2 ⟨rfl, hb2⟩
          have z2 := blk_below z1 hb2
          have B2 := Lib.hid (below_step B1.out hb2)
          clear hb2 z1 p0 p1 p2 p3 p4
          obtain ⟨p0, p1, p2, p3, p4⟩ := fm_cells z2
          cases hq : pB (ScOk x.f3) with
          | false =>
            have HQ2 := Lib.hid hq
            clear hq
            go_wp2_with fail
            go_ret
            exact ⟨ret_b (pB_no (fun h => by have := pB_yes ((isOk1 K1.out).1 h).2.2.1; rw [HQ2.out] at this; cases this)), B2.out⟩
          | true =>
            have HQ2 := Lib.hid hq
            clear hq
            by_cases h3 : x.f4.length = 0
            · have t3 : ((x.f4.length : Int) == 0) = true := by rw [beq_iff_eq]; omega
              have H3 := Lib.hid h3
              clear h3
              go_wp2_with fail
              go_ret
              exact ⟨ret_b (pB_yes ((isOk1 K1.out).2 ⟨(nmB_iff _).1 HQ.out, H2.out, pB_iff.1 HQ2.out, H3.out⟩)), B2.out⟩
            · have t3 : ((x.f4.length : Int) == 0) = false := by rw [beq_eq_false_iff_ne]; omega
              have H3 := Lib.hid h3
              clear h3
              go_wp2_with fail
              go_ret
              exact ⟨ret_b (pB_no (fun h => H3.out ((isOk1 K1.out).1 h).2.2.2)), B2.out⟩
        · have t2 : (x.f2 == 0) = false := by simpa using h2
          have H2 := Lib.hid h2
          clear h2
          go_wp2_with fail
          go_ret
          exact ⟨ret_b (pB_no (fun h => H2.out ((isOk1 K1.out).1 h).2.1)), B1.out⟩
    · have e1 : (x.f0 == 1) = false := by simpa using k1
      have K1 := Lib.hid k1
      clear k1 HN
      by_cases k2 : x.f0 = 2
      · have e2 : (x.f0 == 2) = true := by simpa using k2
        have K2 := Lib.hid k2
        clear k2
        have B0 := Lib.hid (below_new w (.cells #[.int .i64 x.f0, .string x.f1, .int .i64 x.f2, .slice A3 x.f3.length c3, .slice A4 x.f4.length c4] 30))
        go_enter Try.func91, Try.ntmps91
        by_cases h1 : x.f1.toList = []
        · have t1 : (x.f1.toList == []) = true := by rw [h1]; rfl
          have H1 := Lib.hid h1
          clear h1
          by_cases h2 : 0 ≤ x.f2
          · have t2 : decide (x.f2 ≥ 0) = true := decide_eq_true h2
            have t2' : decide (0 ≤ x.f2) = true := decide_eq_true h2
            have H2 := Lib.hid h2
            clear h2
            by_cases h3 : x.f2 ≤ 999
            · have t3 : decide (x.f2 ≤ 999) = true := decide_eq_true h3
              have H3 := Lib.hid h3
              clear h3
              by_cases h4 : x.f3.length = 0
              · have t4 : ((x.f3.length : Int) == 0) = true := by rw [beq_iff_eq]; omega
                have H4 := Lib.hid h4
                clear h4
                by_cases h5 : x.f4.length = 0
                · have t5 : ((x.f4.length : Int) == 0) = true := by rw [beq_iff_eq]; omega
                  have H5 := Lib.hid h5
                  clear h5
                  go_wp2_with fail
                  go_ret
                  exact ⟨ret_b (pB_yes ((isOk2 K2.out).2 ⟨H1.out, H2.out, H3.out, H4.out, H5.out⟩)), B0.out⟩
                · have t5 : ((x.f4.length : Int) == 0) = false := by rw [beq_eq_false_iff_ne]; omega
                  have H5 := Lib.hid h5
                  clear h5
                  go_wp2_with fail
                  go_ret
                  exact ⟨ret_b (pB_no (fun h => H5.out ((isOk2 K2.out).1 h).2.2.2.2)), B0.out⟩
              · have t4 : ((x.f3.length : Int) == 0) = false := by rw [beq_eq_false_iff_ne]; omega
                have H4 := Lib.hid h4
                clear h4
                go_wp2_with fail
                go_ret
                exact ⟨ret_b (pB_no (fun h => H4.out ((isOk2 K2.out).1 h).2.2.2.1)), B0.out⟩
            · have t3 : decide (x.f2 ≤ 999) = false := decide_eq_false h3
              have H3 := Lib.hid h3
              clear h3
              go_wp2_with fail
              go_ret
              exact ⟨ret_b (pB_no (fun h => by have h1 := H3.out; have h2 := ((isOk2 K2.out).1 h).2.2.1; omega)), B0.out⟩
          · have t2 : decide (x.f2 ≥ 0) = false := decide_eq_false h2
            have t2' : decide (0 ≤ x.f2) = false := decide_eq_false h2
            have H2 := Lib.hid h2
            clear h2
            go_wp2_with fail
            go_ret
            exact ⟨ret_b (pB_no (fun h => by have h1 := H2.out; have h2 := ((isOk2 K2.out).1 h).2.1; omega)), B0.out⟩
        · have t1 : (x.f1.toList == []) = false := by rw [beq_eq_false_iff_ne]; exact h1
          have H1 := Lib.hid h1
          clear h1
          go_wp2_with fail
          go_ret
          exact ⟨ret_b (pB_no (fun h => H1.out ((isOk2 K2.out).1 h).1)), B0.out⟩
      · have e2 : (x.f0 == 2) = false := by simpa using k2
        have K2 := Lib.hid k2
        clear k2
        by_cases k3 : x.f0 = 3
        · have e3 : (x.f0 != 3) = false := by simpa using k3
          have e3' : (x.f0 == 3) = true := by simpa using k3
          have K3 := Lib.hid k3
          clear k3
          have B0 := Lib.hid (below_new w (.cells #[.int .i64 x.f0, .string x.f1, .int .i64 x.f2, .slice A3 x.f3.length c3, .slice A4 x.f4.length c4] 30))
          obtain ⟨p0, p1, p2, p3, p4⟩ := fm_cells (blk_new w (.cells #[.int .i64 x.f0, .string x.f1, .int .i64 x.f2, .slice A3 x.f3.length c3, .slice A4 x.f4.length c4] 30))
          clear p0 p1 p2 p3
          go_enter Try.func91, Try.ntmps91
          by_cases h1 : x.f1.toList = []
          · have t1 : (x.f1.toList != []) = false := by rw [h1]; rfl
            have t1' : (x.f1.toList == []) = true := by rw [h1]; rfl
            have H1 := Lib.hid h1
            clear h1
            by_cases h2 : x.f2 = 0
            · have t2 : (x.f2 != 0) = false := by simpa using h2
              have H2 := Lib.hid h2
              clear h2
              by_cases h4 : x.f3.length = 0
              · have t4 : ((x.f3.length : Int) != 0) = false := by simp [h4]
                have t4' : ((x.f3.length : Int) == 0) = true := by rw [beq_iff_eq]; omega
                have H4 := Lib.hid h4
                clear h4
                go_wp2_with fail
                go_loopg [5] x.f4.length (fun kq v5 w' => ∃ i : Nat, i ≤ x.f4.length ∧ x.f4.length - i ≤ kq ∧ v5 = .int .i64 i ∧ Aside0 (∀ j (h : j < x.f4.length), j < i → IsOk n x.f4[j]) ∧ Aside0 (Below (w.alloc (.cells #[.int .i64 x.f0, .string x.f1, .int .i64 x.f2, .slice A3 x.f3.length c3, .slice A4 x.f4.length c4] 30)).heap.size (w.alloc (.cells #[.int .i64 x.f0, .string x.f1, .int .i64 x.f2, .slice A3 x.f3.length c3, .slice A4 x.f4.length c4] 30)) w'))
                case atStart => exact ⟨0, Nat.zero_le _, by omega, rfl, ⟨fun j _ h => absurd h (by omega)⟩, ⟨Below.refl _ _⟩⟩
                case round =>
                  obtain ⟨i, hi, hg, rfl, HN, HW⟩ := hrel
                  have q4 := ck0 HW.out p4
                  have HW0 := Lib.hid (below_step B0.out HW.out)
                  by_cases hlt : i < x.f4.length
                  · obtain ⟨ad, G3, m3, G4, m4, e, g0, g1, g2, g3, g4, hk⟩ := kid_at (Kd.C_below HI.out.g4 HW0.out) i hlt
                    subst e
                    have HC := Lib.hid (IH.out x.f4[i] G3 m3 G4 m4 (m - 1) wr (by have := HM.out; omega) (by have := HM.out; omega) hk (kid_tot HT.out (List.getElem_mem hlt)))
                    clear hk
                    go_wp2_with fail
                    refine HC.out.mono ?_
                    rintro e w1 ⟨rfl, hb1⟩
                    have HB1 := Lib.hid hb1
                    clear hb1
                    cases he : pB (IsOk n x.f4[i]) with
                    | true =>
                      have HE := Lib.hid he
                      clear he
                      go_wp2_with fail
                      go_roundg (x.f4.length - (i + 1))
                      case measure => omega
                      case rel =>
                        refine ⟨i + 1, by omega, Nat.le_refl _, by go_num, ⟨fun j hj hji => ?_⟩, ⟨below_step HW.out HB1.out⟩⟩
                        rcases Nat.lt_or_ge j i with h | h
                        · exact HN.out j hj h
                        · obtain rfl : j = i := by omega
                          exact pB_iff.1 HE.out
                    | false =>
                      have HE := Lib.hid he
                      clear he
                      go_wp2_with fail
                      go_ret
                      refine ⟨ret_b (pB_no (fun h => ?_)), below_step HW0.out HB1.out⟩
                      have := pB_yes (((isOk3 K1.out K2.out).1 h).2.2.2.2 _ (List.getElem_mem hlt))
                      rw [HE.out] at this
                      cases this
                  · obtain rfl : i = x.f4.length := by omega
                    go_wp2_with fail
                    go_ret
                    refine ⟨ret_b (pB_yes ((isOk3 K1.out K2.out).2 ⟨K3.out, H1.out, H2.out, H4.out, fun k hk => ?_⟩)), HW0.out⟩
                    obtain ⟨j, hj, rfl⟩ := List.getElem_of_mem hk
                    exact HN.out j hj hj
              · have t4 : ((x.f3.length : Int) != 0) = true := by rw [bne_iff_ne]; omega
                have t4' : ((x.f3.length : Int) == 0) = false := by rw [beq_eq_false_iff_ne]; omega
                have H4 := Lib.hid h4
                clear h4
                go_wp2_with fail
                go_ret
                exact ⟨ret_b (pB_no (fun h => by have h1 := H4.out; have h2 := ((isOk3 K1.out K2.out).1 h).2.2.2.1; omega)), B0.out⟩
            · have t2 : (x.f2 != 0) = true := by simpa using h2
              have H2 := Lib.hid h2
              clear h2
              go_wp2_with fail
              go_ret
              exact ⟨ret_b (pB_no (fun h => H2.out ((isOk3 K1.out K2.out).1 h).2.2.1)), B0.out⟩
          · have t1 : (x.f1.toList != []) = true := by rw [bne_iff_ne]; exact h1
            have t1' : (x.f1.toList == []) = false := by rw [beq_eq_false_iff_ne]; exact h1
            have H1 := Lib.hid h1
            clear h1
            go_wp2_with fail
            go_ret
            exact ⟨ret_b (pB_no (fun h => H1.out ((isOk3 K1.out K2.out).1 h).2.1)), B0.out⟩
        · have e3 : (x.f0 != 3) = true := by simpa using k3
          have e3' : (x.f0 == 3) = false := by simpa using k3
          have K3 := Lib.hid k3
          clear k3
          have B0 := Lib.hid (below_new w (.cells #[.int .i64 x.f0, .string x.f1, .int .i64 x.f2, .slice A3 x.f3.length c3, .slice A4 x.f4.length c4] 30))
          go_enter Try.func91, Try.ntmps91
          go_wp2_with fail
          go_ret
          exact ⟨ret_b (pB_no (fun h => K3.out ((isOk3 K1.out K2.out).1 h).1)), B0.out⟩
def FmOk (x : Fm) : Prop := IsOk 40 x ∧ x.size ≤ 400
theorem specValid_any (x : Fm) (A3 : Option Addr) (c3 : Nat) (A4 : Option Addr) (c4 : Nat) (w : World) (hin : FmIn w x A3 c3 A4 c4) (ht : x.tot ≤ 1048576) :
    Calls Try.prog 82 #[.agg #[.int .i64 x.f0, .string x.f1, .int .i64 x.f2, .slice A3 x.f3.length c3, .slice A4 x.f4.length c4]] w (Ret w (.bool (pB (FmOk x)))) := by
  have hb := below_new w (.cells #[.int .i64 x.f0, .string x.f1, .int .i64 x.f2, .slice A3 x.f3.length c3, .slice A4 x.f4.length c4] 30)
  have HI := Lib.hid (l1Is_any 40 x A3 c3 A4 c4 40 _ rfl (by omega) (hin.below hb) ht)
  have hsz : x.size < 4611686018427387904 := by have := sizes_totL x; omega
  have HS := Lib.hid (fun W hb => l1Count_any x A3 c3 A4 c4 W (hin.below hb) hsz)
  clear hb hin
  go_enter Try.func82, Try.ntmps82
  go_wp2_with fail
  refine HI.out.mono ?_
  rintro e w1 ⟨rfl, hb1⟩
  obtain ⟨z1, b1⟩ := one_new hb1
  obtain ⟨p0, p1, p2, p3, p4⟩ := fm_cells z1
  have B1 := Lib.hid b1
  have HS1 := Lib.hid (HS.out _ b1)
  clear hb1 b1 HS
  cases hq : pB (IsOk 40 x) with
  | false =>
    have HQ := Lib.hid hq
    clear hq
    go_wp2_with fail
    go_ret
    exact ⟨ret_b (pB_no (fun h => by have := pB_yes h.1; rw [HQ.out] at this; cases this)), B1.out⟩
  | true =>
    have HQ := Lib.hid hq
    clear hq
    go_wp2_with fail
    refine HS1.out.mono ?_
    rintro e w2 ⟨rfl, hb2⟩
    have B2 := Lib.hid (below_step B1.out hb2)
    clear hb2
    by_cases h4 : x.size ≤ 400
    · have t1 : decide ((x.size : Int) ≤ 400) = true := decide_eq_true (by omega)
      have H4 := Lib.hid h4
      clear h4
      go_wp2_with fail
      go_ret
      exact ⟨ret_b (pB_yes ⟨pB_iff.1 HQ.out, H4.out⟩), B2.out⟩
    · have t1 : decide ((x.size : Int) ≤ 400) = false := decide_eq_false (by omega)
      have H4 := Lib.hid h4
      clear h4
      go_wp2_with fail
      go_ret
      exact ⟨ret_b (pB_no (fun h => by have h1 := H4.out; have h2 := h.2; omega)), B2.out⟩
end Go.Proofs.Ytcbomlmlindjdaa
end
section
namespace Go.Proofs.Ytcbomlmlindjdaa
set_option linter.unusedVariables false
set_option linter.unusedSimpArgs false
abbrev Srt (l : List Int) : Prop := l.Pairwise (· < ·)
theorem srt_ext : ∀ {a b : List Int}, Srt a → Srt b → (∀ x, x ∈ a ↔ x ∈ b) → a = b
  | [], [], _, _, _ => rfl
  | [], y :: b, _, _, h => absurd ((h y).2 List.mem_cons_self) (by simp)
  | x :: a, [], _, _, h => absurd ((h x).1 List.mem_cons_self) (by simp)
  | x :: a, y :: b, ha, hb, h => by
    obtain ⟨ha1, ha2⟩ := List.pairwise_cons.1 ha
    obtain ⟨hb1, hb2⟩ := List.pairwise_cons.1 hb
    have e : x = y := by
      rcases List.mem_cons.1 ((h x).1 List.mem_cons_self) with e | hx
      · exact e
      · rcases List.mem_cons.1 ((h y).2 List.mem_cons_self) with e | hy
        · exact e.symm
        · have := hb1 x hx; have := ha1 y hy; omega
    subst e
    congr 1
    refine srt_ext ha2 hb2 (fun z => ⟨fun hz => ?_, fun hz => ?_⟩)
    · rcases List.mem_cons.1 ((h z).1 (List.mem_cons_of_mem _ hz)) with e | hz2
      · subst e; exact absurd (ha1 z hz) (by omega)
      · exact hz2
    · rcases List.mem_cons.1 ((h z).2 (List.mem_cons_of_mem _ hz)) with e | hz2
      · subst e; exact absurd (hb1 z hz) (by omega)
      · exact hz2
/-- A valid set of scopes: in order, from 1 to 99, 24 at most. -/
theorem scOk_iff {l : List Int} : ScOk l ↔ l.length ≤ 24 ∧ Srt l ∧ ∀ x, x ∈ l → 1 ≤ x ∧ x ≤ 99 := by
  unfold ScOk
  constructor
  · rintro ⟨h1, h2⟩
    refine ⟨h1, ?_, fun x hx => ?_⟩
    · have key : ∀ i j (hi : i < l.length) (hj : j < l.length), i < j → l[i] < l[j] := by
        intro i j hi hj hij
        induction j with
        | zero => omega
        | succ j ih =>
          have h3 := (h2 (j + 1) hj).2.2 j (by omega) rfl
          rcases Nat.lt_or_ge i j with h | h
          · have := ih (by omega) h; omega
          · obtain rfl : i = j := by omega
            exact h3
      rw [Srt, List.pairwise_iff_getElem]
      exact fun i j hi hj hij => key i j hi hj hij
    · obtain ⟨i, hi, rfl⟩ := List.getElem_of_mem hx
      exact ⟨(h2 i hi).1, (h2 i hi).2.1⟩
  · rintro ⟨h1, h2, h3⟩
    refine ⟨h1, fun i hi => ⟨(h3 _ (List.getElem_mem hi)).1, (h3 _ (List.getElem_mem hi)).2, fun j hj e => ?_⟩⟩
    rw [Srt, List.pairwise_iff_getElem] at h2
    exact h2 j i hj hi (by omega)
abbrev takeO (l : List Int) (x : Int) : List Int := l.filter (fun y => !(y == x))
end Go.Proofs.Ytcbomlmlindjdaa
end
section
namespace Go.Proofs.Ytcbomlmlindjdaa
set_option linter.unusedVariables false
set_option linter.unusedSimpArgs false
mutual
/-- A form whose names have other scopes (what is no name has none). -/
def Fm.chS (g : List Int → List Int) : Fm → Fm
  | ⟨a, b, c, d, ks⟩ => ⟨a, b, c, if a = 1 then g d else [], chSL g ks⟩
def chSL (g : List Int → List Int) : List Fm → List Fm
  | [] => []
  | k :: ks => k.chS g :: chSL g ks
end
/-- A fact on all names within a form. -/
inductive AllNm (P : Fm → Prop) : Fm → Prop
  | mk (x : Fm) (h : x.f0 = 1 → P x) (hk : ∀ k, k ∈ x.f4 → AllNm P k) : AllNm P x
theorem AllNm.at {P : Fm → Prop} {x : Fm} (h : AllNm P x) : x.f0 = 1 → P x := by cases h; assumption
theorem AllNm.kid {P : Fm → Prop} {x : Fm} (h : AllNm P x) : ∀ k, k ∈ x.f4 → AllNm P k := by cases h; assumption
theorem AllNm.imp {P Q : Fm → Prop} (hi : ∀ x, P x → Q x) {x : Fm} (h : AllNm P x) : AllNm Q x := by
  induction h with
  | mk x h hk ih => exact ⟨x, fun e => hi x (h e), ih⟩
theorem AllNm.and {P Q : Fm → Prop} {x : Fm} (h : AllNm P x) (h2 : AllNm Q x) : AllNm (fun y => P y ∧ Q y) x := by
  induction h with
  | mk x h hk ih => exact ⟨x, fun e => ⟨h e, h2.at e⟩, fun k hk => ih k hk (h2.kid k hk)⟩
theorem AllNm.all {P : Fm → Prop} (h : ∀ x, P x) (x : Fm) : AllNm P x := by
  induction x using Fm.ind with
  | h x ih => exact ⟨x, fun _ => h x, ih⟩
theorem toList_len (s : ByteArray) : s.toList.length = s.size := by rw [ByteArray.toList_eq]; exact Array.length_toList
theorem nmOk_size {s : ByteArray} (h : NmOk s) : s.size ≤ 12 := by
  rcases h with h | h | h
  · have := congrArg List.length h; rw [toList_len] at this; simp at this; omega
  · have := congrArg List.length h; rw [toList_len] at this; simp at this; omega
  · exact h.2.1
/-- What AddScope, FlipScope, DropScope and DressLike return. -/
noncomputable def orN (x : Fm) : Fm × Bool := if pB (FmOk x) then (x, true) else (zFm, false)
noncomputable def reS (g : List Int → List Int) (n : Int) (x : Fm) : Fm × Bool := if pB (FmOk x ∧ 1 ≤ n ∧ n ≤ 99) then orN (x.chS g) else (zFm, false)
abbrev tupF (p : Fm × Bool) : Int × ByteArray × Int × List Int × List Fm × Bool := (p.1.f0, p.1.f1, p.1.f2, p.1.f3, p.1.f4, p.2)
end Go.Proofs.Ytcbomlmlindjdaa
end
section
namespace Go.Proofs.Ytcbomlmlindjdaa
open Go.RowKit Go.Proofs.YtcbomlmlindjdaaW.PrintWords Go.Proofs.YtcbomlmlindjdaaW.PrintLast Go.Proofs.YtcbomlmlindjdaaW.PrintMore
set_option linter.unusedVariables false
set_option linter.unusedSimpArgs false
def LeftAt (w : World) (g : Nat) (L : Int) : Prop := w.heap[g]? = some (.cells #[.int .i64 L] 3 (0, 0))
def OkPost (n : Nat) (x : Fm) (L : Int) (g : Nat) (w0 : World) (e : Ending) (w' : World) : Prop :=
  ∃ b, e = .returned (.bool b) ∧ (b = true ↔ IsOk n x ∧ (x.size : Int) ≤ L) ∧ Below w0.heap.size w0 w' ∧ (b = true → LeftAt w' g (L - x.size))
theorem okPost_no {n : Nat} {x : Fm} {L : Int} {g : Nat} {w0 w' : World} (h : ¬ (IsOk n x ∧ (x.size : Int) ≤ L)) (hb : Below w0.heap.size w0 w') : OkPost n x L g w0 (.returned (.bool false)) w' :=
  ⟨false, rfl, ⟨(fun h => nomatch h), (fun h2 => absurd h2 h)⟩, hb, (fun h => nomatch h)⟩
theorem okPost_yes {n : Nat} {x : Fm} {L : Int} {g : Nat} {w0 w' : World} (h : IsOk n x ∧ (x.size : Int) ≤ L) (hb : Below w0.heap.size w0 w') (hl : LeftAt w' g (L - x.size)) : OkPost n x L g w0 (.returned (.bool true)) w' :=
  ⟨true, rfl, ⟨fun _ => h, fun _ => rfl⟩, hb, fun _ => hl⟩
set_option maxHeartbeats 8000000 in
set_option maxRecDepth 100000 in
theorem formOk_any : ∀ (n : Nat) (x : Fm) (A3 : Option Addr) (c3 : Nat) (A4 : Option Addr) (c4 : Nat) (d L : Int) (g : Nat) (w0 w : World), d + n = 41 → 1 ≤ d → 0 ≤ L → L ≤ 400 → x.tot ≤ 1048576 → FmIn w0 x A3 c3 A4 c4 → Below w0.heap.size w0 w → w0.heap.size ≤ g → LeftAt w g L →
    Calls Try.prog 70 #[.agg #[.int .i64 x.f0, .string x.f1, .int .i64 x.f2, .slice A3 x.f3.length c3, .slice A4 x.f4.length c4], .int .i64 d, .pointer (some ⟨g, 0, none⟩)] w (OkPost n x L g w0) := by
  intro n
  induction n with
  | zero =>
    intro x A3 c3 A4 c4 d L g w0 w hd hd1 hL0 hL1 ht hin hb hg hl
    have hgw : g < w.heap.size := by
      rcases Nat.lt_or_ge g w.heap.size with h | h
      · exact h
      · unfold LeftAt at hl; rw [Array.getElem?_eq_none h] at hl; cases hl
    have ka := blk_below hl (below_new w (.cells #[.int .i64 x.f0, .string x.f1, .int .i64 x.f2, .slice A3 x.f3.length c3, .slice A4 x.f4.length c4] 30))
    have hk0 := (blk_cell ka 0).trans (show _ = some (Value.int .i64 L) from rfl)
    have hf0 := blk_frozen ka 0
    have ks := blk_below (blk_set hl 0 (.int .i64 (L - 1))) (below_new (w.setCell ⟨g, 0, none⟩ (.int .i64 (L - 1))) (.cells #[.int .i64 x.f0, .string x.f1, .int .i64 x.f2, .slice A3 x.f3.length c3, .slice A4 x.f4.length c4] 30))
    have hk1 := (blk_cell ks 0).trans (show _ = some (Value.int .i64 (L - 1)) from by simp)
    have HB := Lib.hid (below_step (Below.setCell hb (p := ⟨g, 0, none⟩) hg (.int .i64 (L - 1))) (below_new (w.setCell ⟨g, 0, none⟩ (.int .i64 (L - 1))) (.cells #[.int .i64 x.f0, .string x.f1, .int .i64 x.f2, .slice A3 x.f3.length c3, .slice A4 x.f4.length c4] 30)))
    have h40 : d > 40 := by omega
    have t2 : decide (d > 40) = true := decide_eq_true (by omega)
    have t2' : decide (40 < d) = true := decide_eq_true (by omega)
    clear hin ht hb hl ka ks hd
    by_cases h0 : L - 1 < 0
    · have t1 : decide (L - 1 < 0) = true := decide_eq_true h0
      clear h0
      go_enter Try.func70, Try.ntmps70
      go_wp2_with fail


      go_ret
      exact okPost_no (fun h => h.1) HB.out
    · have t1 : decide (L - 1 < 0) = false := decide_eq_false h0
      clear h0
      go_enter Try.func70, Try.ntmps70
      go_wp2_with fail
      go_ret
      exact okPost_no (fun h => h.1) HB.out
  | succ n ih =>
    intro x A3 c3 A4 c4 d L g w0 w hd hd1 hL0 hL1 ht hin hb hg hl
    have hgw : g < w.heap.size := by
      rcases Nat.lt_or_ge g w.heap.size with h | h
      · exact h
      · unfold LeftAt at hl; rw [Array.getElem?_eq_none h] at hl; cases hl
    have ka := blk_below hl (below_new w (.cells #[.int .i64 x.f0, .string x.f1, .int .i64 x.f2, .slice A3 x.f3.length c3, .slice A4 x.f4.length c4] 30))
    have hk0 := (blk_cell ka 0).trans (show _ = some (Value.int .i64 L) from rfl)
    have hf0 := blk_frozen ka 0
    have ks := blk_below (blk_set hl 0 (.int .i64 (L - 1))) (below_new (w.setCell ⟨g, 0, none⟩ (.int .i64 (L - 1))) (.cells #[.int .i64 x.f0, .string x.f1, .int .i64 x.f2, .slice A3 x.f3.length c3, .slice A4 x.f4.length c4] 30))
    have hk1 := (blk_cell ks 0).trans (show _ = some (Value.int .i64 (L - 1)) from by simp)
    have KS : LeftAt ((w.setCell ⟨g, 0, none⟩ (.int .i64 (L - 1))).alloc (.cells #[.int .i64 x.f0, .string x.f1, .int .i64 x.f2, .slice A3 x.f3.length c3, .slice A4 x.f4.length c4] 30)) g (L - 1) := by simpa [LeftAt] using ks
    have hz0 := blk_new (w.setCell ⟨g, 0, none⟩ (.int .i64 (L - 1))) (.cells #[.int .i64 x.f0, .string x.f1, .int .i64 x.f2, .slice A3 x.f3.length c3, .slice A4 x.f4.length c4] 30)
    rw [show (w.setCell ⟨g, 0, none⟩ (.int .i64 (L - 1))).heap.size = w.heap.size from by simp] at hz0
    have HB0 := below_step (Below.setCell hb (p := ⟨g, 0, none⟩) hg (.int .i64 (L - 1))) (below_new (w.setCell ⟨g, 0, none⟩ (.int .i64 (L - 1))) (.cells #[.int .i64 x.f0, .string x.f1, .int .i64 x.f2, .slice A3 x.f3.length c3, .slice A4 x.f4.length c4] 30))
    have HB := Lib.hid HB0
    have hsz := Fm.size_eq x
    have hmax := hin.g4.2.1
    by_cases h0 : L - 1 < 0
    · have t1 : decide (L - 1 < 0) = true := decide_eq_true h0
      have H0 := Lib.hid (show ¬ ((x.size : Int) ≤ L) by omega)
      clear h0 hin ht hb hl ka ks hd hsz hz0 HB0 ih KS
      go_enter Try.func70, Try.ntmps70
      go_wp2_with fail
      go_ret
      exact okPost_no (fun h => by have h1 := H0.out; have h2 := h.2; omega) HB.out
    have t1 : decide (L - 1 < 0) = false := decide_eq_false h0
    have hd40 : d ≤ 40 := by omega
    have t2 : decide (d > 40) = false := decide_eq_false (by omega)
    have t2' : decide (40 < d) = false := decide_eq_false (by omega)
    have HD := Lib.hid hd
    have HI := Lib.hid (hin.below HB0)
    have HI0 := Lib.hid hin
    have HT := Lib.hid ht
    have IH := Lib.hid ih
    have HSZ := Lib.hid hsz
    have HKS := Lib.hid KS
    have HZ0 := Lib.hid hz0
    have HNm := Lib.hid (implName_any x.f1 ((w.setCell ⟨g, 0, none⟩ (.int .i64 (L - 1))).alloc (.cells #[.int .i64 x.f0, .string x.f1, .int .i64 x.f2, .slice A3 x.f3.length c3, .slice A4 x.f4.length c4] 30)) (name_size ht))
    have HWi := Lib.hid (within_any x.f2 0 999 ((w.setCell ⟨g, 0, none⟩ (.int .i64 (L - 1))).alloc (.cells #[.int .i64 x.f0, .string x.f1, .int .i64 x.f2, .slice A3 x.f3.length c3, .slice A4 x.f4.length c4] 30)))
    clear hd hin ht ih hsz KS ks hb hl ka HB0
    by_cases k1 : x.f0 = 1
    · have e1 : (x.f0 == 1) = true := by simpa using k1
      have K1 := Lib.hid k1
      clear k1 HWi hz0
      go_enter Try.func70, Try.ntmps70
      go_wp2_with fail
      refine HNm.out.mono ?_
      rintro e w1 ⟨rfl, hb1⟩
      have z1 := blk_below HZ0.out hb1
      have l1 := blk_below HKS.out hb1
      obtain ⟨p0, p1, p2, p3, p4⟩ := fm_cells z1
      have B1 := Lib.hid (below_step HB.out hb1)
      have HS := Lib.hid (scopesOk_any x.f3 A3 c3 w1 (Kd.C_below HI0.out.g3 B1.out) HI0.out.l3)
      clear hb1
      cases hq : nmB x.f1 with
      | false =>
        have HQ := Lib.hid hq
        clear hq
        go_wp2_with fail
        go_ret
        exact okPost_no (fun h => by have := nmB_t ((isOk1 K1.out).1 h.1).1; rw [HQ.out] at this; cases this) B1.out
      | true =>
        have HQ := Lib.hid hq
        clear hq
        by_cases h2 : x.f2 = 0
        · have t3 : (x.f2 == 0) = true := by simpa using h2
          have H2 := Lib.hid h2
          clear h2
          go_wp2_with fail
          refine HS.out.mono ?_
          rintro e w2 ⟨rfl, hb2⟩
          have z2 := blk_below z1 hb2
          have L2 := Lib.hid (blk_below l1 hb2)
          have B2 := Lib.hid (below_step B1.out hb2)
          clear hb2 z1 l1 p0 p1 p2 p3 p4
          obtain ⟨p0, p1, p2, p3, p4⟩ := fm_cells z2
          cases hq : pB (ScOk x.f3) with
          | false =>
            have HQ2 := Lib.hid hq
            clear hq
            go_wp2_with fail
            go_ret
            exact okPost_no (fun h => by have := pB_yes ((isOk1 K1.out).1 h.1).2.2.1; rw [HQ2.out] at this; cases this) B2.out
          | true =>
            have HQ2 := Lib.hid hq
            clear hq
            by_cases h3 : x.f4.length = 0
            · have t4 : ((x.f4.length : Int) == 0) = true := by rw [beq_iff_eq]; omega
              have H3 := Lib.hid h3
              have H0 := Lib.hid h0
              clear h3 h0
              go_wp2_with fail
              go_ret
              have hs1 : x.size = 1 := by have h1 := HSZ.out; rw [List.length_eq_zero_iff.1 H3.out] at h1; exact h1
              have hc1 : (x.size : Int) = 1 := by omega
              exact okPost_yes ⟨(isOk1 K1.out).2 ⟨(nmB_iff _).1 HQ.out, H2.out, pB_iff.1 HQ2.out, H3.out⟩, by have := H0.out; omega⟩ B2.out (by rw [hc1]; exact L2.out)
            · have t4 : ((x.f4.length : Int) == 0) = false := by rw [beq_eq_false_iff_ne]; omega
              have H3 := Lib.hid h3
              clear h3
              go_wp2_with fail
              go_ret
              exact okPost_no (fun h => H3.out ((isOk1 K1.out).1 h.1).2.2.2) B2.out
        · have t3 : (x.f2 == 0) = false := by simpa using h2
          have H2 := Lib.hid h2
          clear h2
          go_wp2_with fail
          go_ret
          exact okPost_no (fun h => H2.out ((isOk1 K1.out).1 h.1).2.1) B1.out
    have e1 : (x.f0 == 1) = false := by simpa using k1
    have K1 := Lib.hid k1
    clear k1 HNm
    obtain ⟨p0, p1, p2, p3, p4⟩ := fm_cells hz0
    by_cases k2 : x.f0 = 2
    · have e2 : (x.f0 == 2) = true := by simpa using k2
      have K2 := Lib.hid k2
      clear k2 hz0
      go_enter Try.func70, Try.ntmps70
      by_cases h1 : x.f1.toList = []
      · have t3 : (x.f1.toList == []) = true := by rw [h1]; rfl
        have H1 := Lib.hid h1
        clear h1
        go_wp2_with fail
        refine HWi.out.mono ?_
        rintro e w1 ⟨rfl, hb1⟩
        have z1 := blk_below HZ0.out hb1
        have L1 := Lib.hid (blk_below HKS.out hb1)
        have B1 := Lib.hid (below_step HB.out hb1)
        clear hb1 p0 p1 p2 p3 p4
        obtain ⟨p0, p1, p2, p3, p4⟩ := fm_cells z1
        by_cases h2 : 0 ≤ x.f2 ∧ x.f2 ≤ 999
        · rw [decide_eq_true h2]
          have H2 := Lib.hid h2
          clear h2
          by_cases h4 : x.f3.length = 0
          · have t4 : ((x.f3.length : Int) == 0) = true := by rw [beq_iff_eq]; omega
            have H4 := Lib.hid h4
            clear h4
            by_cases h5 : x.f4.length = 0
            · have t5 : ((x.f4.length : Int) == 0) = true := by rw [beq_iff_eq]; omega
              have H5 := Lib.hid h5
              have H0 := Lib.hid h0
              clear h5 h0
              go_wp2_with fail
              go_ret
              have hs1 : x.size = 1 := by have h1 := HSZ.out; rw [List.length_eq_zero_iff.1 H5.out] at h1; exact h1
              have hc1 : (x.size : Int) = 1 := by omega
              exact okPost_yes ⟨(isOk2 K2.out).2 ⟨H1.out, H2.out.1, H2.out.2, H4.out, H5.out⟩, by have := H0.out; omega⟩ B1.out (by rw [hc1]; exact L1.out)
            · have t5 : ((x.f4.length : Int) == 0) = false := by rw [beq_eq_false_iff_ne]; omega
              have H5 := Lib.hid h5
              clear h5
              go_wp2_with fail
              go_ret
              exact okPost_no (fun h => H5.out ((isOk2 K2.out).1 h.1).2.2.2.2) B1.out
          · have t4 : ((x.f3.length : Int) == 0) = false := by rw [beq_eq_false_iff_ne]; omega
            have H4 := Lib.hid h4
            clear h4
            go_wp2_with fail
            go_ret
            exact okPost_no (fun h => H4.out ((isOk2 K2.out).1 h.1).2.2.2.1) B1.out
        · rw [decide_eq_false h2]
          have H2 := Lib.hid h2
          clear h2
          go_wp2_with fail
          go_ret
          exact okPost_no (fun h => H2.out ⟨((isOk2 K2.out).1 h.1).2.1, ((isOk2 K2.out).1 h.1).2.2.1⟩) B1.out
      · have t3 : (x.f1.toList == []) = false := by rw [beq_eq_false_iff_ne]; exact h1
        have H1 := Lib.hid h1
        clear h1
        go_wp2_with fail
        go_ret
        exact okPost_no (fun h => H1.out ((isOk2 K2.out).1 h.1).1) HB.out
    have e2 : (x.f0 == 2) = false := by simpa using k2
    have K2 := Lib.hid k2
    clear k2 HWi
    by_cases k3 : x.f0 = 3
    · have e3 : (x.f0 == 3) = true := by simpa using k3
      have K3 := Lib.hid k3
      clear k3
      go_enter Try.func70, Try.ntmps70
      by_cases h1 : x.f1.toList = []
      · have t3 : (x.f1.toList != []) = false := by rw [h1]; rfl
        have t3' : (x.f1.toList == []) = true := by rw [h1]; rfl
        have H1 := Lib.hid h1
        clear h1
        by_cases h2 : x.f2 = 0
        · have t4 : (x.f2 != 0) = false := by simpa using h2
          have H2 := Lib.hid h2
          clear h2
          by_cases h4 : x.f3.length = 0
          · have t5 : decide ((x.f3.length : Int) > 0) = false := decide_eq_false (by omega)
            have t5' : decide ((0 : Int) < (x.f3.length : Int)) = false := decide_eq_false (by omega)
            have t5'' : decide (0 < x.f3.length) = false := decide_eq_false (by omega)
            have H4 := Lib.hid h4
            clear h4
            go_wp2_with fail
            go_loopg [8, 86] x.f4.length (fun kq v8 v86 w' => ∃ i : Nat, i ≤ x.f4.length ∧ x.f4.length - i ≤ kq ∧ v86 = .int .i64 i ∧ Aside0 (∀ j (h : j < x.f4.length), j < i → IsOk n x.f4[j]) ∧ Aside0 (Below w0.heap.size w0 w') ∧ Aside0 (LeftAt w' g (L - 1 - sizes (x.f4.take i))) ∧ Aside0 (0 ≤ L - 1 - (sizes (x.f4.take i) : Int)))
            case atStart => exact ⟨0, Nat.zero_le _, by omega, rfl, ⟨fun j _ h => absurd h (by omega)⟩, ⟨HB.out⟩, ⟨by simpa [sizes] using HKS.out⟩, ⟨by simp [sizes]; omega⟩⟩
            case round =>
              obtain ⟨i, hi, hg2, rfl, HN, HW, HL, HP⟩ := hrel
              by_cases hlt : i < x.f4.length
              · obtain ⟨ad, G3, m3, G4, m4, e, g0, g1, g2, g3, g4, hk⟩ := kid_at HI0.out.g4 i hlt
                subst e
                have q0 := ck0 HW.out g0
                have q1 := ck0 HW.out g1
                have q2 := ck0 HW.out g2
                have q3 := ck0 HW.out g3
                have q4 := ck0 HW.out g4
                have hst := sizes_take x.f4 i hlt
                have hle := sizes_take_le x.f4 (i + 1)
                have hP := HP.out
                have hfr : w0.heap.size ≤ wr.heap.size := HW.out.size
                have HC := Lib.hid (IH.out x.f4[i] G3 m3 G4 m4 (d + 1) (L - 1 - (sizes (x.f4.take i) : Int)) g w0 (wr.alloc (.cells #[.int .i64 x.f4[i].f0, .string x.f4[i].f1, .int .i64 x.f4[i].f2, .slice G3 x.f4[i].f3.length m3, .slice G4 x.f4[i].f4.length m4] 30)) (by have := HD.out; omega) (by omega) hP (by omega) (kid_tot HT.out (List.getElem_mem hlt)) hk (below_step HW.out (below_new _ _)) hg (blk_below HL.out (below_new _ _)))
                have HST := Lib.hid hst
                have HLE := Lib.hid hle
                clear hk g0 g1 g2 g3 g4 hst hle hP hfr
                go_wp2_with fail
                refine HC.out.mono ?_
                intro e w1 hpost
                obtain ⟨b, rfl, hiff, hb1, hl1⟩ := hpost
                have HF := Lib.hid hiff
                have HB1 := Lib.hid hb1
                have HL1 := Lib.hid hl1
                clear hiff hb1 hl1
                cases b with
                | true =>
                  go_wp2_with fail
                  go_roundg (x.f4.length - (i + 1))
                  case measure => omega
                  case rel =>
                    have h1 := HST.out
                    have h2 := HF.out.1 (by simp)
                    have h3 := HL1.out (by simp)
                    refine ⟨i + 1, by omega, Nat.le_refl _, by go_num, ⟨fun j hj hji => ?_⟩, ⟨HB1.out⟩, ⟨?_⟩, ⟨by rw [h1]; omega⟩⟩
                    · rcases Nat.lt_or_ge j i with h | h
                      · exact HN.out j hj h
                      · obtain rfl : j = i := by omega
                        exact h2.1
                    · rw [h1, show L - 1 - ((sizes (x.f4.take i) + x.f4[i].size : Nat) : Int) = L - 1 - (sizes (x.f4.take i) : Int) - (x.f4[i].size : Int) from by omega]
                      exact h3
                | false =>
                  go_wp2_with fail
                  go_ret
                  refine okPost_no (fun h => ?_) HB1.out
                  have h1 := HF.out.2 ⟨((isOk3 K1.out K2.out).1 h.1).2.2.2.2 _ (List.getElem_mem hlt), by have h1 := HST.out; have h2 := HLE.out; have h3 := HSZ.out; have h4 := h.2; omega⟩
                  cases h1
              · obtain rfl : i = x.f4.length := by omega
                go_wp2_with fail
                go_ret
                have hsum : (x.size : Int) = 1 + (sizes x.f4 : Int) := by have := HSZ.out; omega
                have hP := HP.out
                have hL := HL.out
                rw [List.take_length] at hP hL
                refine okPost_yes ⟨(isOk3 K1.out K2.out).2 ⟨K3.out, H1.out, H2.out, H4.out, fun k hk => ?_⟩, by omega⟩ HW.out (by rw [show L - (x.size : Int) = L - 1 - (sizes x.f4 : Int) from by omega]; exact hL)
                obtain ⟨j, hj, rfl⟩ := List.getElem_of_mem hk
                exact HN.out j hj hj
          · have t5 : decide ((x.f3.length : Int) > 0) = true := decide_eq_true (by omega)
            have t5' : decide ((0 : Int) < (x.f3.length : Int)) = true := decide_eq_true (by omega)
            have t5'' : decide (0 < x.f3.length) = true := decide_eq_true (by omega)
            have H4 := Lib.hid h4
            clear h4
            go_wp2_with fail
            go_ret
            exact okPost_no (fun h => H4.out ((isOk3 K1.out K2.out).1 h.1).2.2.2.1) HB.out
        · have t4 : (x.f2 != 0) = true := by simpa using h2
          have H2 := Lib.hid h2
          clear h2
          go_wp2_with fail
          go_ret
          exact okPost_no (fun h => H2.out ((isOk3 K1.out K2.out).1 h.1).2.2.1) HB.out
      · have t3 : (x.f1.toList != []) = true := by rw [bne_iff_ne]; exact h1
        have t3' : (x.f1.toList == []) = false := by rw [beq_eq_false_iff_ne]; exact h1
        have H1 := Lib.hid h1
        clear h1
        go_wp2_with fail
        go_ret
        exact okPost_no (fun h => H1.out ((isOk3 K1.out K2.out).1 h.1).2.1) HB.out
    have e3 : (x.f0 == 3) = false := by simpa using k3
    have K3 := Lib.hid k3
    clear k3
    go_enter Try.func70, Try.ntmps70
    go_wp2_with fail
    go_ret
    exact okPost_no (fun h => K3.out ((isOk3 K1.out K2.out).1 h.1).1) HB.out
theorem implValid_any (x : Fm) (A3 : Option Addr) (c3 : Nat) (A4 : Option Addr) (c4 : Nat) (w : World) (hin : FmIn w x A3 c3 A4 c4) (ht : x.tot ≤ 1048576) :
    Calls Try.prog 30 #[.agg #[.int .i64 x.f0, .string x.f1, .int .i64 x.f2, .slice A3 x.f3.length c3, .slice A4 x.f4.length c4]] w (Ret w (.bool (pB (FmOk x)))) := by
  have hb := below_step (below_new w (.cells #[.int .i64 x.f0, .string x.f1, .int .i64 x.f2, .slice A3 x.f3.length c3, .slice A4 x.f4.length c4] 30)) (below_new _ (.cells #[.int .i64 400] 3))
  have hl := blk_new (w.alloc (.cells #[.int .i64 x.f0, .string x.f1, .int .i64 x.f2, .slice A3 x.f3.length c3, .slice A4 x.f4.length c4] 30)) (.cells #[.int .i64 400] 3)
  rw [show (w.alloc (.cells #[.int .i64 x.f0, .string x.f1, .int .i64 x.f2, .slice A3 x.f3.length c3, .slice A4 x.f4.length c4] 30)).heap.size = w.heap.size + 1 from by simp] at hl
  have HC := Lib.hid (formOk_any 40 x A3 c3 A4 c4 1 400 (w.heap.size + 1) w _ (by omega) (by omega) (by omega) (by omega) ht hin hb (by omega) hl)
  clear hin ht hb hl
  go_enter Try.func30, Try.ntmps30
  go_wp2_with fail
  refine HC.out.mono ?_
  intro e w1 hpost
  obtain ⟨b, rfl, hiff, hb1, hl1⟩ := hpost
  have hv : b = pB (FmOk x) := pB_of ⟨fun h => ⟨(hiff.1 h).1, by have := (hiff.1 h).2; omega⟩, fun h => hiff.2 ⟨h.1, by have := h.2; omega⟩⟩
  have HV := Lib.hid hv
  have HB1 := Lib.hid hb1
  clear hiff hb1 hl1 hv HC
  go_wp2_with fail
  go_ret
  exact ⟨ret_b HV.out, HB1.out⟩
end Go.Proofs.Ytcbomlmlindjdaa
end
section
namespace Go.Proofs.Ytcbomlmlindjdaa
open Go.RowKit Go.Proofs.YtcbomlmlindjdaaW.PrintWords Go.Proofs.YtcbomlmlindjdaaW.PrintLast Go.Proofs.YtcbomlmlindjdaaW.PrintMore
set_option linter.unusedVariables false
set_option linter.unusedSimpArgs false
def IsName (x : Fm) : Prop := x.f0 = 1 ∧ FmOk x
theorem isName_any (x : Fm) (A3 : Option Addr) (c3 : Nat) (A4 : Option Addr) (c4 : Nat) (w : World) (hin : FmIn w x A3 c3 A4 c4) (ht : x.tot ≤ 1048576) :
    Calls Try.prog 52 #[.agg #[.int .i64 x.f0, .string x.f1, .int .i64 x.f2, .slice A3 x.f3.length c3, .slice A4 x.f4.length c4]] w (Ret w (.bool (pB (IsName x)))) := by
  have HC := Lib.hid (implValid_any x A3 c3 A4 c4 _ (hin.below (below_new w (.cells #[.int .i64 x.f0, .string x.f1, .int .i64 x.f2, .slice A3 x.f3.length c3, .slice A4 x.f4.length c4] 30))) ht)
  have HB := Lib.hid (below_new w (.cells #[.int .i64 x.f0, .string x.f1, .int .i64 x.f2, .slice A3 x.f3.length c3, .slice A4 x.f4.length c4] 30))
  clear hin ht
  by_cases k1 : x.f0 = 1
  · have e1 : (x.f0 == 1) = true := by simpa using k1
    have K1 := Lib.hid k1
    clear k1
    go_enter Try.func52, Try.ntmps52
    go_wp2_with fail
    refine HC.out.mono ?_
    rintro e w1 ⟨rfl, hb1⟩
    generalize hE : pB (FmOk x) = E
    have HE := Lib.hid hE
    have HB1 := Lib.hid (below_step HB.out hb1)
    clear hE hb1
    go_wp2_with fail
    go_ret
    exact ⟨ret_b (pB_of (by rw [← HE.out, pB_iff]; exact ⟨fun h => ⟨K1.out, h⟩, fun h => h.2⟩)), HB1.out⟩
  · have e1 : (x.f0 == 1) = false := by simpa using k1
    have K1 := Lib.hid k1
    clear k1 HC
    go_enter Try.func52, Try.ntmps52
    go_wp2_with fail
    go_ret
    exact ⟨ret_b (pB_no (fun h => K1.out h.1)), HB.out⟩
def SmName (x y : Fm) : Prop := FmOk x ∧ FmOk y ∧ x.f0 = 1 ∧ x = y
end Go.Proofs.Ytcbomlmlindjdaa
end
section
namespace Go.Proofs.Ytcbomlmlindjdaa
set_option linter.unusedVariables false
set_option linter.unusedSimpArgs false
/-- Binding i of a list. -/
def bdAt (l : List Bd) (i : Nat) : Bd := l.getD i zBd
theorem bdAt_eq {l : List Bd} {i : Nat} (h : i < l.length) : bdAt l i = l[i] := by
  show l.getD i zBd = _
  rw [List.getD_eq_getElem?_getD, List.getElem?_eq_getElem h]; rfl
/-- A binding fits a name. -/
def fitsB (x : Fm) (b : Bd) : Bool := decide (b.f0.toList = x.f1.toList) && decide (∀ s, s ∈ b.f1 → s ∈ x.f3)
theorem fitsB_iff {x : Fm} {b : Bd} : fitsB x b = true ↔ b.f0.toList = x.f1.toList ∧ ∀ s, s ∈ b.f1 → s ∈ x.f3 := by
  unfold fitsB; rw [Bool.and_eq_true, decide_eq_true_iff, decide_eq_true_iff]
/-- The places of the bindings, of the first n, that fit. -/
def fitI (l : List Bd) (x : Fm) (n : Nat) : List Int := ((List.range n).filter (fun i => fitsB x (bdAt l i))).map (fun i : Nat => (i : Int))
abbrev fitL (l : List Bd) (x : Fm) : List Int := fitI l x l.length
theorem fitI_next (l : List Bd) (x : Fm) (i : Nat) : fitI l x (i + 1) = fitI l x i ++ (if fitsB x (bdAt l i) = true then [(i : Int)] else []) := by
  unfold fitI
  rw [List.range_succ, List.filter_append, List.map_append]
  congr 1
  by_cases h : fitsB x (bdAt l i) = true <;> simp [h]
theorem fitI_len (l : List Bd) (x : Fm) (n : Nat) : (fitI l x n).length ≤ n := by
  unfold fitI
  rw [List.length_map]
  exact Nat.le_trans (List.length_filter_le _ _) (by simp)
theorem mem_fitL {l : List Bd} {x : Fm} {m : Int} : m ∈ fitL l x ↔ ∃ i : Nat, i < l.length ∧ m = (i : Int) ∧ fitsB x (bdAt l i) = true := by
  unfold fitL fitI
  simp only [List.mem_map, List.mem_filter, List.mem_range]
  constructor
  · rintro ⟨i, ⟨h1, h2⟩, rfl⟩; exact ⟨i, h1, rfl, h2⟩
  · rintro ⟨i, h1, rfl, h2⟩; exact ⟨i, ⟨h1, h2⟩, rfl⟩
/-- The scopes of the binding at place j are among those of the one at place m. -/
def subI (l : List Bd) (j m : Int) : Bool := decide (∀ s, s ∈ (bdAt l j.toNat).f1 → s ∈ (bdAt l m.toNat).f1)
theorem subI_iff {l : List Bd} {j m : Int} : subI l j m = true ↔ ∀ s, s ∈ (bdAt l j.toNat).f1 → s ∈ (bdAt l m.toNat).f1 := decide_eq_true_iff
/-- All of the first n places lead to bindings whose scopes are among those of place m. -/
def bestI (l : List Bd) (f : List Int) (m : Int) (n : Nat) : Bool := (f.take n).all (fun j => subI l j m)
abbrev bestL (l : List Bd) (f : List Int) (m : Int) : Bool := bestI l f m f.length
theorem bestI_zero (l : List Bd) (f : List Int) (m : Int) : bestI l f m 0 = true := by simp [bestI]
theorem bestI_next (l : List Bd) (f : List Int) (m : Int) {n : Nat} (h : n < f.length) : bestI l f m (n + 1) = (bestI l f m n && subI l f[n] m) := by
  unfold bestI
  rw [List.take_succ_eq_append_getElem h, List.all_append]
  simp
theorem bestL_iff {l : List Bd} {f : List Int} {m : Int} : bestL l f m = true ↔ ∀ j, j ∈ f → ∀ s, s ∈ (bdAt l j.toNat).f1 → s ∈ (bdAt l m.toNat).f1 := by
  unfold bestL bestI
  rw [List.take_length, List.all_eq_true]
  exact ⟨fun h j hj => subI_iff.1 (h j hj), fun h j hj => subI_iff.2 (h j hj)⟩
/-- The place of the closest binding, and how looking for it ends: 1 one, 2 many, 0 none. -/
def boundR (l : List Bd) (x : Fm) : Int × Int := match (fitL l x).find? (bestL l (fitL l x)) with
  | some m => (m, 1)
  | none => (0, if fitL l x = [] then 0 else 2)
theorem boundR_some {l : List Bd} {x : Fm} {i : Nat} (h : i < (fitL l x).length) (hb : bestL l (fitL l x) (fitL l x)[i] = true) (hn : ∀ j (hj : j < i), bestL l (fitL l x) ((fitL l x)[j]'(by omega)) = false) : boundR l x = ((fitL l x)[i], 1) := by
  unfold boundR
  rw [show (fitL l x).find? (bestL l (fitL l x)) = some (fitL l x)[i] from List.find?_eq_some_iff_getElem.2 ⟨hb, i, h, rfl, fun j hj => by simpa using hn j hj⟩]
theorem boundR_none {l : List Bd} {x : Fm} (h : ∀ j (hj : j < (fitL l x).length), bestL l (fitL l x) (fitL l x)[j] = false) : boundR l x = (0, if fitL l x = [] then 0 else 2) := by
  unfold boundR
  rw [show (fitL l x).find? (bestL l (fitL l x)) = none from List.find?_eq_none.2 (fun m hm => by
    obtain ⟨j, hj, rfl⟩ := List.getElem_of_mem hm
    simpa using h j hj)]
theorem boundR_cases (l : List Bd) (x : Fm) : (∃ m, m ∈ fitL l x ∧ bestL l (fitL l x) m = true ∧ boundR l x = (m, 1)) ∨ ((∀ m, m ∈ fitL l x → bestL l (fitL l x) m = false) ∧ boundR l x = (0, if fitL l x = [] then 0 else 2)) := by
  unfold boundR
  cases h : (fitL l x).find? (bestL l (fitL l x)) with
  | some m => exact .inl ⟨m, List.mem_of_find?_eq_some h, by simpa using List.find?_some h, rfl⟩
  | none => exact .inr ⟨fun m hm => by simpa using List.find?_eq_none.1 h m hm, rfl⟩
noncomputable def findR (l : List Bd) (x : Fm) : Int × Int := if pB (BdsOk l ∧ IsName x) = true then (if (boundR l x).2 = 1 then ((bdAt l (boundR l x).1.toNat).f2, 1) else (0, (boundR l x).2)) else (0, 0)
noncomputable def fittingR (l : List Bd) (x : Fm) : List Int := if pB (BdsOk l ∧ IsName x) = true then fitL l x else []
noncomputable def hiddenR (l : List Bd) (x : Fm) : List Int := if pB (BdsOk l ∧ IsName x) = true then (if (boundR l x).2 = 1 then (fitL l x).filter (fun j => !(j == (boundR l x).1)) else []) else []
noncomputable def addBindR (l : List Bd) (x : Fm) (id : Int) : List Bd × Bool := if pB (BdsOk l ∧ IsName x) = true then (if pB (BdsOk (l ++ [⟨x.f1, x.f3, id⟩])) = true then (l ++ [⟨x.f1, x.f3, id⟩], true) else ([], false)) else ([], false)
/-- Two names stand for the same. -/
def refB (p q : Int × Int) (x y : Fm) : Bool := (p.2 == 1 && q.2 == 1 && p.1 == q.1) || (p.2 == 0 && q.2 == 0 && decide (x.f1.toList = y.f1.toList))
noncomputable def sameR (l : List Bd) (x y : Fm) : Bool := pB (BdsOk l ∧ IsName x ∧ IsName y) && refB (findR l x) (findR l y) x y
/-! Valid lists. -/
theorem sameB_iff {b c : Bd} : sameB b c = true ↔ c.f0.toList = b.f0.toList ∧ c.f1 = b.f1 := by
  unfold sameB; rw [Bool.and_eq_true, decide_eq_true_iff, decide_eq_true_iff]
theorem bdsOk_iff {l : List Bd} : BdsOk l ↔ l.length ≤ 60 ∧ (∀ b, b ∈ l → BdOk b) ∧ l.Pairwise (fun b c => ¬ (b.f0.toList = c.f0.toList ∧ b.f1 = c.f1)) := by
  unfold BdsOk BdAt
  constructor
  · rintro ⟨h1, h2⟩
    refine ⟨h1, fun b hb => ?_, List.pairwise_iff_getElem.2 (fun i j hi hj hij he => ?_)⟩
    · obtain ⟨i, hi, rfl⟩ := List.getElem_of_mem hb
      exact (h2 i hi).1
    · have h3 := (h2 j hj).2
      rw [List.any_eq_false] at h3
      exact h3 l[i] (List.mem_take_iff_getElem.2 ⟨i, by omega, rfl⟩) (sameB_iff.2 he)
  · rintro ⟨h1, h2, h3⟩
    refine ⟨h1, fun i hi => ⟨h2 _ (List.getElem_mem hi), ?_⟩⟩
    rw [List.any_eq_false]
    intro b hb he
    obtain ⟨j, hj, rfl⟩ := List.mem_take_iff_getElem.1 hb
    exact (List.pairwise_iff_getElem.1 h3) j i (by omega) hi (by omega) (sameB_iff.1 he)
/-- A binding that fits, and whose scopes hold those of all that fit. -/
structure Best (l : List Bd) (x : Fm) (b : Bd) : Prop where
  mem : b ∈ l
  fits : fitsB x b = true
  top : ∀ c, c ∈ l → fitsB x c = true → ∀ s, s ∈ c.f1 → s ∈ b.f1
theorem bdOk_srt {b : Bd} (h : BdOk b) : Srt b.f1 := (scOk_iff.1 h.2.1).2.1
theorem Best.unique {l : List Bd} {x : Fm} {b c : Bd} (hl : BdsOk l) (hb : Best l x b) (hc : Best l x c) : b = c := by
  obtain ⟨_, h2, h3⟩ := bdsOk_iff.1 hl
  obtain ⟨i, hi, rfl⟩ := List.getElem_of_mem hb.mem
  obtain ⟨j, hj, rfl⟩ := List.getElem_of_mem hc.mem
  have e1 : l[i].f0.toList = l[j].f0.toList := (fitsB_iff.1 hb.fits).1.trans (fitsB_iff.1 hc.fits).1.symm
  have e2 : l[i].f1 = l[j].f1 := srt_ext (bdOk_srt (h2 _ hb.mem)) (bdOk_srt (h2 _ hc.mem)) (fun s => ⟨hc.top _ hb.mem hb.fits s, hb.top _ hc.mem hc.fits s⟩)
  rcases Nat.lt_trichotomy i j with h | h | h
  · exact absurd ⟨e1, e2⟩ ((List.pairwise_iff_getElem.1 h3) i j hi hj h)
  · subst h; rfl
  · exact absurd ⟨e1.symm, e2.symm⟩ ((List.pairwise_iff_getElem.1 h3) j i hj hi h)
theorem best_of_place {l : List Bd} {x : Fm} {m : Int} (hm : m ∈ fitL l x) (hb : bestL l (fitL l x) m = true) : ∃ i : Nat, ∃ h : i < l.length, m = (i : Int) ∧ Best l x l[i] := by
  obtain ⟨i, hi, rfl, hf⟩ := mem_fitL.1 hm
  rw [bdAt_eq hi] at hf
  refine ⟨i, hi, rfl, List.getElem_mem hi, hf, fun c hc hcf => ?_⟩
  obtain ⟨j, hj, rfl⟩ := List.getElem_of_mem hc
  have := bestL_iff.1 hb (j : Int) (mem_fitL.2 ⟨j, hj, rfl, by rw [bdAt_eq hj]; exact hcf⟩)
  rw [Int.toNat_natCast, Int.toNat_natCast, bdAt_eq hj, bdAt_eq hi] at this
  exact this
theorem place_of_best {l : List Bd} {x : Fm} {i : Nat} (h : i < l.length) (hb : Best l x l[i]) : (i : Int) ∈ fitL l x ∧ bestL l (fitL l x) (i : Int) = true := by
  refine ⟨mem_fitL.2 ⟨i, h, rfl, by rw [bdAt_eq h]; exact hb.fits⟩, bestL_iff.2 (fun m hm => ?_)⟩
  obtain ⟨j, hj, rfl, hf⟩ := mem_fitL.1 hm
  rw [bdAt_eq hj] at hf
  rw [Int.toNat_natCast, Int.toNat_natCast, bdAt_eq hj, bdAt_eq h]
  exact hb.top _ (List.getElem_mem hj) hf
/-- What looking for a name comes to, over a valid list. -/
theorem findR_best {l : List Bd} {x : Fm} (hl : BdsOk l) (hx : IsName x) {b : Bd} (hb : Best l x b) : findR l x = (b.f2, 1) ∧ (boundR l x).2 = 1 := by
  obtain ⟨i, hi, rfl⟩ := List.getElem_of_mem hb.mem
  obtain ⟨h1, h2⟩ := place_of_best hi hb
  unfold findR
  rw [if_pos (pB_iff.2 ⟨hl, hx⟩)]
  rcases boundR_cases l x with ⟨m, hm, hbm, he⟩ | ⟨hn, he⟩
  · obtain ⟨j, hj, rfl, hbj⟩ := best_of_place hm hbm
    rw [he]
    refine ⟨?_, rfl⟩
    show (if (1 : Int) = 1 then ((bdAt l ((j : Int)).toNat).f2, (1 : Int)) else _) = _
    rw [if_pos rfl, Int.toNat_natCast, bdAt_eq hj, Best.unique hl hbj hb]
  · rw [hn _ h1] at h2; cases h2
theorem fitL_nil {l : List Bd} {x : Fm} : fitL l x = [] ↔ ∀ b, b ∈ l → fitsB x b = false := by
  rw [List.eq_nil_iff_forall_not_mem]
  constructor
  · intro h b hb
    obtain ⟨i, hi, rfl⟩ := List.getElem_of_mem hb
    rw [Bool.eq_false_iff]
    exact fun hf => h (i : Int) (mem_fitL.2 ⟨i, hi, rfl, by rw [bdAt_eq hi]; exact hf⟩)
  · intro h m hm
    obtain ⟨i, hi, rfl, hf⟩ := mem_fitL.1 hm
    rw [bdAt_eq hi, h _ (List.getElem_mem hi)] at hf
    cases hf
theorem findR_none {l : List Bd} {x : Fm} (h : ∀ b, b ∈ l → fitsB x b = false) : findR l x = (0, 0) := by
  unfold findR
  split
  · rcases boundR_cases l x with ⟨m, hm, _, _⟩ | ⟨_, he⟩
    · rw [fitL_nil.2 h] at hm; cases hm
    · rw [he, fitL_nil.2 h]; rfl
  · rfl
theorem findR_many {l : List Bd} {x : Fm} (hl : BdsOk l) (hx : IsName x) (h1 : ∃ b, b ∈ l ∧ fitsB x b = true) (h2 : ∀ b, ¬ Best l x b) : findR l x = (0, 2) ∧ (boundR l x).2 = 2 := by
  have hne : fitL l x ≠ [] := fun he => by
    obtain ⟨b, hb, hf⟩ := h1
    rw [fitL_nil.1 he b hb] at hf; cases hf
  unfold findR
  rw [if_pos (pB_iff.2 ⟨hl, hx⟩)]
  rcases boundR_cases l x with ⟨m, hm, hbm, he⟩ | ⟨_, he⟩
  · obtain ⟨j, hj, rfl, hbj⟩ := best_of_place hm hbm
    exact absurd hbj (h2 _)
  · rw [he, if_neg hne]; exact ⟨rfl, rfl⟩
theorem findR_out {l : List Bd} {x : Fm} (h : ¬ (BdsOk l ∧ IsName x)) : findR l x = (0, 0) := by unfold findR; rw [if_neg (fun k => h (pB_iff.1 k))]
theorem find_cases (l : List Bd) (x : Fm) : (∃ b, Best l x b) ∨ (∀ b, b ∈ l → fitsB x b = false) ∨ ((∃ b, b ∈ l ∧ fitsB x b = true) ∧ ∀ b, ¬ Best l x b) := by
  by_cases h1 : ∃ b, Best l x b
  · exact .inl h1
  · by_cases h2 : ∃ b, b ∈ l ∧ fitsB x b = true
    · exact .inr (.inr ⟨h2, fun b hb => h1 ⟨b, hb⟩⟩)
    · exact .inr (.inl (fun b hb => by rw [Bool.eq_false_iff]; exact fun hf => h2 ⟨b, hb, hf⟩))
end Go.Proofs.Ytcbomlmlindjdaa
end
section
namespace Go.Proofs.Ytcbomlmlindjdaa
open Go.RowKit Go.Proofs.YtcbomlmlindjdaaW.PrintWords
set_option linter.unusedVariables false
theorem Ev.some {α : Type} {o : Option α} {r : α} (h : o = some r) : Ev (fun _ => o) r := ⟨0, fun _ _ => h⟩
theorem Ev.pos {α : Type} {c : Prop} [Decidable c] {a b : Nat → Option α} {r : α} (h : c) (e : Ev a r) : Ev (fun k => if c then a k else b k) r := by
  simp only [if_pos h]; exact e
theorem Ev.neg {α : Type} {c : Prop} [Decidable c] {a b : Nat → Option α} {r : α} (h : ¬ c) (e : Ev b r) : Ev (fun k => if c then a k else b k) r := by
  simp only [if_neg h]; exact e
theorem ev_loop {R S : Type} {L : Nat → S → Option R} (Inv : Nat → S → Prop) (n : Nat) (Post : R → Prop)
    (hs : ∀ i s, i < n → Inv i s → ∃ s', Inv (i + 1) s' ∧ ∀ r, Ev (fun k => L k s') r → Ev (fun k => L k s) r)
    (he : ∀ s, Inv n s → ∃ r, Post r ∧ Ev (fun k => L k s) r) : ∀ s, Inv 0 s → ∃ r, Post r ∧ Ev (fun k => L k s) r := by
  have key : ∀ m i s, i + m = n → Inv i s → ∃ r, Post r ∧ Ev (fun k => L k s) r := by
    intro m
    induction m with
    | zero => intro i s hi h; obtain rfl : i = n := by omega
              exact he s h
    | succ m ih =>
      intro i s hi h
      obtain ⟨s', h', hk⟩ := hs i s (by omega) h
      obtain ⟨r, hp, hr⟩ := ih (i + 1) s' (by omega) h'
      exact ⟨r, hp, hk r hr⟩
  exact fun s h => key n 0 s (by omega) h
theorem wr1 (i : Nat) (h : i < 4611686018427387904) : wrap64 ((i : Int) + 1) = ((i + 1 : Nat) : Int) := by
  rw [Go.IntWalk.wrap64_in _ ⟨by omega, by omega⟩]; omega
end Go.Proofs.Ytcbomlmlindjdaa
end
section
namespace Go.Proofs.Ytcbomlmlindjdaa
open Go.RowKit Go.Proofs.YtcbomlmlindjdaaW.PrintWords Go.Proofs.YtcbomlmlindjdaaW.PrintLast Go.Proofs.YtcbomlmlindjdaaW.PrintMore
set_option linter.unusedVariables false
set_option linter.unusedSimpArgs false
abbrev kS : Kd ByteArray := Kd.string
instance decMemB (n : ByteArray) (xs : List ByteArray) : Decidable (n ∈ xs) := @List.instDecidableMemOfLawfulBEq ByteArray instBEqOfDecidableEq _ n xs
end Go.Proofs.Ytcbomlmlindjdaa
end
section
namespace Go.Proofs.Ytcbomlmlindjdaa
open Go.RowKit Go.Proofs.YtcbomlmlindjdaaW.PrintWords Go.Proofs.YtcbomlmlindjdaaW.PrintLast Go.Proofs.YtcbomlmlindjdaaW.PrintMore
set_option linter.unusedVariables false
set_option linter.unusedSimpArgs false
/-- A row of numbers in new memory is handed back. -/
def RetI (w : World) (xs : List Int) (e : Ending) (w' : World) : Prop := ∃ v, e = .returned v ∧ kI.R 3 w' w.heap.size (fun _ => True) v xs ∧ Below w.heap.size w w'
end Go.Proofs.Ytcbomlmlindjdaa
end
section
namespace Go.Proofs.Ytcbomlmlindjdaa.Q
open Go.RowKit Go.Proofs.YtcbomlmlindjdaaW.PrintWords Go.Proofs.YtcbomlmlindjdaaW.PrintLast Go.Proofs.YtcbomlmlindjdaaW.PrintMore
set_option linter.unusedVariables false
set_option linter.unusedSimpArgs false

noncomputable def spec_NameValid.f (a0 : ByteArray) : Option (Bool) := gIf (a0.size ≤ 140737488351232) (nmB a0)
set_option maxRecDepth 100000 in
theorem spec_NameValid.calls (a0 : ByteArray) (r : Bool) (w : World)  (h : spec_NameValid.f a0 = some r) :
    Calls Try.prog 48 #[.string a0] w fun e w' => e = .returned (.bool r) ∧ Below w.heap.size w w' := by
  obtain ⟨ht, rfl⟩ := gIf_some h
  exact specName_any a0 w ht

noncomputable def spec_l1Scopes.f (l0 : List Int) : Option (Bool) := some (pB (ScOk l0))
set_option maxRecDepth 100000 in
theorem spec_l1Scopes.calls (A0 : Option Addr) (c0 : Nat) (l0 : List Int) (r : Bool) (w : World) (hr0 : Kd.C (Kd.int .i64) w A0 l0.length l0) (hc0 : l0.length ≤ c0) (h : spec_l1Scopes.f l0 = some r) :
    Calls Try.prog 49 #[.slice A0 l0.length c0] w fun e w' => e = .returned (.bool r) ∧ Below w.heap.size w w' := by
  obtain rfl := Option.some.inj h
  exact l1Scopes_any l0 A0 c0 w hr0 hc0

noncomputable def spec_l1Ints.f (l0 : List Int) (l1 : List Int) : Option (Bool) := some (decide (l0 = l1))
set_option maxRecDepth 100000 in
theorem spec_l1Ints.calls (A0 : Option Addr) (c0 : Nat) (l0 : List Int) (A1 : Option Addr) (c1 : Nat) (l1 : List Int) (r : Bool) (w : World) (hr0 : Kd.C (Kd.int .i64) w A0 l0.length l0) (hc0 : l0.length ≤ c0) (hr1 : Kd.C (Kd.int .i64) w A1 l1.length l1) (hc1 : l1.length ≤ c1) (h : spec_l1Ints.f l0 l1 = some r) :
    Calls Try.prog 50 #[.slice A0 l0.length c0, .slice A1 l1.length c1] w fun e w' => e = .returned (.bool r) ∧ Below w.heap.size w w' := by
  obtain rfl := Option.some.inj h
  exact l1Ints_any l0 l1 A0 A1 c0 c1 w hr0 hc0 hr1 hc1

noncomputable def spec_FormValid.f (a0_0 : Int) (a0_1 : ByteArray) (a0_2 : Int) (l0_3 : List Int) (l0_4 : List (S30)) : Option (Bool) := gIf ((⟨a0_0, a0_1, a0_2, l0_3, l0_4⟩ : Fm).tot ≤ 1048576) (pB (FmOk (⟨a0_0, a0_1, a0_2, l0_3, l0_4⟩ : Fm)))
set_option maxRecDepth 100000 in
theorem spec_FormValid.calls (a0_0 : Int) (a0_1 : ByteArray) (a0_2 : Int) (A0_3 : Option Addr) (c0_3 : Nat) (l0_3 : List Int) (A0_4 : Option Addr) (c0_4 : Nat) (l0_4 : List (S30)) (r : Bool) (w : World) (hr0_3 : Kd.C (Kd.int .i64) w A0_3 l0_3.length l0_3) (hc0_3 : l0_3.length ≤ c0_3) (hr0_4 : Kd.C k30 w A0_4 l0_4.length l0_4) (hc0_4 : l0_4.length ≤ c0_4) (h : spec_FormValid.f a0_0 a0_1 a0_2 l0_3 l0_4 = some r) :
    Calls Try.prog 82 #[.agg #[.int .i64 a0_0, .string a0_1, .int .i64 a0_2, .slice A0_3 l0_3.length c0_3, .slice A0_4 l0_4.length c0_4]] w fun e w' => e = .returned (.bool r) ∧ Below w.heap.size w w' := by
  obtain ⟨ht, rfl⟩ := gIf_some h
  exact specValid_any (⟨a0_0, a0_1, a0_2, l0_3, l0_4⟩ : Fm) A0_3 c0_3 A0_4 c0_4 w ⟨hc0_3, hr0_3, hc0_4, hr0_4⟩ ht

noncomputable def impl_ScopesWithin.f (l0 : List Int) (l1 : List Int) : Option (Bool) := some (decide (∀ x, x ∈ l0 → x ∈ l1))
set_option maxRecDepth 100000 in
theorem impl_ScopesWithin.calls (A0 : Option Addr) (c0 : Nat) (l0 : List Int) (A1 : Option Addr) (c1 : Nat) (l1 : List Int) (r : Bool) (w : World) (hr0 : Kd.C (Kd.int .i64) w A0 l0.length l0) (hc0 : l0.length ≤ c0) (hr1 : Kd.C (Kd.int .i64) w A1 l1.length l1) (hc1 : l1.length ≤ c1) (h : impl_ScopesWithin.f l0 l1 = some r) :
    Calls Try.prog 26 #[.slice A0 l0.length c0, .slice A1 l1.length c1] w fun e w' => e = .returned (.bool r) ∧ Below w.heap.size w w' := by
  obtain rfl := Option.some.inj h
  exact implWithin_any l0 l1 A0 A1 c0 c1 w hr0 hc0 hr1 hc1

noncomputable def spec_ScopesWithin.f (l0 : List Int) (l1 : List Int) : Option (Bool) := some (decide (∀ x, x ∈ l0 → x ∈ l1))
set_option maxRecDepth 100000 in
theorem spec_ScopesWithin.calls (A0 : Option Addr) (c0 : Nat) (l0 : List Int) (A1 : Option Addr) (c1 : Nat) (l1 : List Int) (r : Bool) (w : World) (hr0 : Kd.C (Kd.int .i64) w A0 l0.length l0) (hc0 : l0.length ≤ c0) (hr1 : Kd.C (Kd.int .i64) w A1 l1.length l1) (hc1 : l1.length ≤ c1) (h : spec_ScopesWithin.f l0 l1 = some r) :
    Calls Try.prog 83 #[.slice A0 l0.length c0, .slice A1 l1.length c1] w fun e w' => e = .returned (.bool r) ∧ Below w.heap.size w w' := by
  obtain rfl := Option.some.inj h
  exact specWithin_any l0 l1 A0 A1 c0 c1 w hr0 hc0 hr1 hc1

end Go.Proofs.Ytcbomlmlindjdaa.Q
end
section
namespace Go.Proofs.Ytcbomlmlindjdaa.Q
open Go.RowKit Go.Proofs.YtcbomlmlindjdaaW.PrintWords Go.Proofs.YtcbomlmlindjdaaW.PrintLast Go.Proofs.YtcbomlmlindjdaaW.PrintMore
set_option linter.unusedVariables false
set_option linter.unusedSimpArgs false

end Go.Proofs.Ytcbomlmlindjdaa.Q
end
section
namespace Go.Proofs.Ytcbomlmlindjdaa.Q
open Go.RowKit Go.Proofs.YtcbomlmlindjdaaW.PrintWords Go.Proofs.YtcbomlmlindjdaaW.PrintLast Go.Proofs.YtcbomlmlindjdaaW.PrintMore
attribute [local go_sem] max2_int min2_int max_two min_two max_three min_three max_four min_four   -- for this text's walks alone
set_option linter.unusedVariables false
set_option linter.unusedSimpArgs false

/-- A state of type 78 at block g of W; what its slices lead to came in by w0. -/
def IsS78 (w0 W : World) (g : Nat) (f0 : List Int) (f1 : Int) : Prop := ∃ A0 c0, W.heap[g]? = some (.cells #[.slice A0 f0.length c0, .int .i64 f1] 78 (0, 0)) ∧ w0.heap.size ≤ g ∧ Kd.C (Kd.int .u8) w0 A0 f0.length f0
theorem IsS78.grown {w0 W : World} {g : Nat} {f0 : List Int} {f1 : Int} {W1 : World} {row : Option Nat} (h : IsS78 w0 W g f0 f1) (hw : W.grownBy W1 row) (hne : some g ≠ row) : IsS78 w0 W1 g f0 f1 := by
  obtain ⟨A0, c0, hb, hg, hr0⟩ := h
  exact ⟨A0, c0, blk_grown hb hw hne, hg, hr0⟩
theorem IsS78.fresh {w0 W : World} {g : Nat} {f0 : List Int} {f1 : Int} (h : IsS78 w0 W g f0 f1) : ∀ k, W.heap.size ≤ k → k ≠ g := by
  obtain ⟨A0, c0, hb, hg, hr0⟩ := h
  exact Kd.freshB hb
theorem IsS78.kept {w0 W : World} {g : Nat} {f0 : List Int} {f1 : Int} {W1 : World} {S : Nat → Prop} (h : IsS78 w0 W g f0 f1) (hk : Kept W W1 S) (hne : ¬ S g) : IsS78 w0 W1 g f0 f1 := by
  obtain ⟨A0, c0, hb, hg, hr0⟩ := h
  exact ⟨A0, c0, blk_kept hb hk hne, hg, hr0⟩
theorem IsS78.below {w0 W : World} {g : Nat} {f0 : List Int} {f1 : Int} {W1 : World} (h : IsS78 w0 W g f0 f1) (hw : Below W.heap.size W W1) : IsS78 w0 W1 g f0 f1 := h.grown (grown_of_below hw none) (by simp)
theorem IsS78.alloc {w0 W : World} {g : Nat} {f0 : List Int} {f1 : Int} (h : IsS78 w0 W g f0 f1) (o : Obj) : IsS78 w0 (W.alloc o) g f0 f1 := h.below (below_alloc (Below.refl _ _) o)
theorem IsS78.drewN {w0 W : World} {g : Nat} {f0 : List Int} {f1 : Int} (h : IsS78 w0 W g f0 f1) (m : Nat) : IsS78 w0 (W.drewN m) g f0 f1 := h
theorem IsS78.drew {w0 W : World} {g : Nat} {f0 : List Int} {f1 : Int} (h : IsS78 w0 W g f0 f1) : IsS78 w0 W.drew g f0 f1 := h
theorem IsS78.at_ {w0 W : World} {g : Nat} {f0 : List Int} {f1 : Int} {w' : World} {m : Nat} (hq : W.drewN m = w') (h : IsS78 w0 W g f0 f1) : IsS78 w0 w' g f0 f1 := by subst hq; exact IsS78.drewN h m
theorem IsS78.apart {w0 W : World} {g : Nat} {f0 : List Int} {f1 : Int} {α : Type} {d : Kd α} {e : Nat} {base : Nat} {ok : Nat → Prop} {v : Value} {xs : List α} (h : IsS78 w0 W g f0 f1) (ho : d.R e W base ok v xs) (ht : ∀ q, q ∈ e :: d.E → q ≠ 78) : d.R e W base (fun k => ok k ∧ k ≠ g) v xs := by
  obtain ⟨A0, c0, hb, hg, hr0⟩ := h
  exact Kd.R_types ho hb ht
theorem IsS78.own_ne {w0 W : World} {g : Nat} {f0 : List Int} {f1 : Int} {α : Type} {d : Kd α} {e : Nat} {base : Nat} {ok : Nat → Prop} {v : Value} {xs : List α} (h : IsS78 w0 W g f0 f1) (ho : d.R e W base ok v xs) (ht : e ≠ 78) : some g ≠ v.ownBlock := by
  obtain ⟨A0, c0, hb, hg, hr0⟩ := h
  exact Kd.R_ne ho hb ht
theorem IsS78.lt {w0 W : World} {g : Nat} {f0 : List Int} {f1 : Int} (h : IsS78 w0 W g f0 f1) : g < W.heap.size := by
  obtain ⟨A0, c0, hb, hg, hr0⟩ := h
  exact blk_lt hb
theorem IsS78.ge {w0 W : World} {g : Nat} {f0 : List Int} {f1 : Int} (h : IsS78 w0 W g f0 f1) : w0.heap.size ≤ g := by
  obtain ⟨A0, c0, hb, hg, hr0⟩ := h
  exact hg
theorem IsS78.ne_blk {w0 W : World} {g : Nat} {f0 : List Int} {f1 : Int} {a : Nat} {cs : Array Value} {t : TypeId} {fr : Nat × Nat} (h : IsS78 w0 W g f0 f1) (hb2 : W.heap[a]? = some (.cells cs t fr)) (ht : t ≠ 78) : g ≠ a := by
  obtain ⟨A0, c0, hb, hg, hr0⟩ := h
  rintro rfl
  rw [hb] at hb2
  injection hb2 with hb2
  injection hb2 with _ ht2
  exact ht ht2.symm
theorem IsS78.far {w0 W : World} {g : Nat} {f0 : List Int} {f1 : Int} {p : Addr} (h : IsS78 w0 W g f0 f1) (hne : g ≠ p.block) (u : Value) : IsS78 w0 (W.setCell p u) g f0 f1 := by
  obtain ⟨A0, c0, hb, hg, hr0⟩ := h
  exact ⟨A0, c0, blk_far hb hne u, hg, hr0⟩
theorem cellS78_0 {W : World} {g : Nat} {A0 : Option Addr} {c0 : Nat} {f0 : List Int} {f1 : Int} (h : W.heap[g]? = some (.cells #[.slice A0 f0.length c0, .int .i64 f1] 78 (0, 0))) : W.cell? ⟨g, 0, none⟩ = some (.slice A0 f0.length c0) := (blk_cell h 0).trans rfl
theorem cellS78_1 {W : World} {g : Nat} {A0 : Option Addr} {c0 : Nat} {f0 : List Int} {f1 : Int} (h : W.heap[g]? = some (.cells #[.slice A0 f0.length c0, .int .i64 f1] 78 (0, 0))) : W.cell? ⟨g, 1, none⟩ = some (.int .i64 f1) := (blk_cell h 1).trans rfl
theorem IsS78.set_1 {w0 W : World} {g : Nat} {f0 : List Int} {f1 : Int} (h : IsS78 w0 W g f0 f1) (x : Int) : IsS78 w0 (W.setCell ⟨g, 1, none⟩ (.int .i64 x)) g f0 x := by
  obtain ⟨A0, c0, hb, hg, hr0⟩ := h
  exact ⟨A0, c0, by simpa using blk_set hb 1 (.int .i64 x), hg, hr0⟩
theorem IsS78.new (w0 W : World) (A0 : Option Addr) (c0 : Nat) (f0 : List Int) (f1 : Int) (hB : Below w0.heap.size w0 W) (hr0 : Kd.C (Kd.int .u8) w0 A0 f0.length f0) : IsS78 w0 (W.alloc (.cells #[.slice A0 f0.length c0, .int .i64 f1] 78)) W.heap.size f0 f1 := ⟨A0, c0, by simpa using heap_alloc_new W _, hB.size, hr0⟩

def spec_l15Open.f (l0 : List Int) : Option (List Int × Int) := if (l0.length : Int) > 2000 then (if 2000 ≤ (l0.length : Int) then (some (l0.take 2000, 0)) else (none)) else (some (l0, 0))
set_option maxHeartbeats 8000000 in
set_option maxRecDepth 100000 in
theorem spec_l15Open.calls (A0 : Option Addr) (c0 : Nat) (l0 : List Int) (r1 : List Int) (r2 : Int) (w0 w : World) (hB : Below w0.heap.size w0 w) (hr0 : Kd.C (Kd.int .u8) w0 A0 l0.length l0) (hc0 : l0.length ≤ c0) (h : spec_l15Open.f l0 = some (r1, r2)) :
    Calls Try.prog 39 #[.slice A0 l0.length c0] w fun e w' => ∃ g_ : Nat, e = .returned (.pointer (some ⟨g_, 0, none⟩)) ∧ IsS78 w0 w' g_ r1 r2 ∧ Below w0.heap.size w0 w' ∧ Below w.heap.size w w' := by
  have hu78 := Try.underlying78
  have HR0 := Aside0.mk hr0
  have HC0 := Aside0.mk hc0
  clear hr0 hc0
  have HBW := Aside0.mk (Below.refl w.heap.size w)
  have HW0 := Aside0.mk hB.size
  have HB := Aside0.mk hB
  clear hB
  have H : (if (l0.length : Int) > 2000 then (if 2000 ≤ (l0.length : Int) then (some (l0.take 2000, 0)) else (none)) else (some (l0, 0))) = some (r1, r2) := h
  clear h
  by_cases c2 : (l0.length : Int) > 2000
  · rw [if_pos c2] at H
    have c2b0 : decide (2000 < (l0.length : Int)) = true := decide_eq_true c2
    have c2b1 : decide (2000 < l0.length) = true := decide_eq_true (by omega)
    clear c2
    by_cases c3 : 2000 ≤ (l0.length : Int)
    · rw [if_pos c3] at H
      have c3b0 := eq_true c3
      have c3b1 : decide (2000 ≤ (l0.length : Int)) = true := decide_eq_true c3
      clear c3
      simp only [Option.some.injEq, Prod.mk.injEq] at H
      obtain ⟨rfl, rfl⟩ := H
      obtain ⟨i04, hi04, _, hsz4, _⟩ := info_parts info5
      obtain ⟨hcut4, hA4, hC4⟩ := print_take_of (P := Try.prog) (Value.int .u8) 0 22 5 .i64 Try.underlying22 hi04 hsz4 A0 c0 l0 2000 (by omega) (of_decide_eq_true (by first | (with_reducible assumption) | assumption)) HC0.out
      have HR101 := Aside0.mk (Kd.C_of_reads (h1 := fun _ => rfl) (hA4 _ (Kd.reads_of_C HR0.out)))
      have HC101 := Aside0.mk hC4
      clear hA4 hC4 hi04 hsz4
      go_enter Try.func39, Try.ntmps39
      go_wp2_with (first | ((with_reducible refine gate_dst (N := 10) rfl ?_); refine box_event ?hg (N := 10) ?hd (cs := #[.slice A0 (l0.take 2000).length c0, .int .i64 0]) (t := 78) ?hr ?_; (case hd => rfl); (case hg => rfl); (case hr => first | (go_simp; done) | (go_simp; rfl)); intro gb102 hg w5 hbox hb; have n0_ := Aside0.mk (below_step HBW.out hb); have n1_ := Aside0.mk (below_step (by repeat (first | (with_reducible first | exact HB.out | apply below_alloc | apply pw_below_drewN | apply below_drew1) | exact HB.out)) hb); have n2_ := Aside0.mk (hbox); have n3_ := Aside0.mk ((by rw [hg]; exact (below_size (by repeat (first | (with_reducible first | exact HBW.out | apply below_alloc | apply pw_below_drewN | apply below_drew1) | exact HBW.out))) : w.heap.size ≤ gb102)); have n4_ := Aside0.mk ((Nat.le_trans HW0.out (by rw [hg]; exact (below_size (by repeat (first | (with_reducible first | exact HBW.out | apply below_alloc | apply pw_below_drewN | apply below_drew1) | exact HBW.out))) : w.heap.size ≤ gb102) : w0.heap.size ≤ gb102)); clear HBW; clear HB; have HBW := n0_; have HB := n1_; have BK102 := n2_; have GW102 := n3_; have GE102 := n4_; clear n0_ n1_ n2_ n3_ n4_; clear hb hbox hg))
      go_ret
      exact ⟨_, rfl, (show IsS78 w0 _ gb102 (l0.take 2000) 0 from ⟨_, _, by (with_reducible repeat (first | refine blk_drewN ?_ _ | refine blk_drew ?_ | refine blk_alloc ?_ _)); exact BK102.out, GE102.out, HR101.out⟩), by repeat (first | (with_reducible first | exact HB.out | apply below_alloc | apply pw_below_drewN | apply below_drew1 | refine below_set ?_ GE102.out) | exact HB.out), by repeat (first | (with_reducible first | exact HBW.out | apply below_alloc | apply pw_below_drewN | apply below_drew1 | refine below_set ?_ GW102.out) | exact HBW.out)⟩
    · rw [if_neg c3] at H
      exact absurd H (by simp)
  · rw [if_neg c2] at H
    have c2b0 : decide (2000 < (l0.length : Int)) = false := decide_eq_false c2
    have c2b1 : decide (2000 < l0.length) = false := decide_eq_false (by omega)
    clear c2
    simp only [Option.some.injEq, Prod.mk.injEq] at H
    obtain ⟨rfl, rfl⟩ := H
    go_enter Try.func39, Try.ntmps39
    go_wp2_with (first | ((with_reducible refine gate_dst (N := 10) rfl ?_); refine box_event ?hg (N := 10) ?hd (cs := #[.slice A0 l0.length c0, .int .i64 0]) (t := 78) ?hr ?_; (case hd => rfl); (case hg => rfl); (case hr => first | (go_simp; done) | (go_simp; rfl)); intro gb103 hg w6 hbox hb; have n0_ := Aside0.mk (below_step HBW.out hb); have n1_ := Aside0.mk (below_step (by repeat (first | (with_reducible first | exact HB.out | apply below_alloc | apply pw_below_drewN | apply below_drew1) | exact HB.out)) hb); have n2_ := Aside0.mk (hbox); have n3_ := Aside0.mk ((by rw [hg]; exact (below_size (by repeat (first | (with_reducible first | exact HBW.out | apply below_alloc | apply pw_below_drewN | apply below_drew1) | exact HBW.out))) : w.heap.size ≤ gb103)); have n4_ := Aside0.mk ((Nat.le_trans HW0.out (by rw [hg]; exact (below_size (by repeat (first | (with_reducible first | exact HBW.out | apply below_alloc | apply pw_below_drewN | apply below_drew1) | exact HBW.out))) : w.heap.size ≤ gb103) : w0.heap.size ≤ gb103)); clear HBW; clear HB; have HBW := n0_; have HB := n1_; have BK103 := n2_; have GW103 := n3_; have GE103 := n4_; clear n0_ n1_ n2_ n3_ n4_; clear hb hbox hg))
    go_ret
    exact ⟨_, rfl, (show IsS78 w0 _ gb103 l0 0 from ⟨_, _, by (with_reducible repeat (first | refine blk_drewN ?_ _ | refine blk_drew ?_ | refine blk_alloc ?_ _)); exact BK103.out, GE103.out, HR0.out⟩), by repeat (first | (with_reducible first | exact HB.out | apply below_alloc | apply pw_below_drewN | apply below_drew1 | refine below_set ?_ GE103.out) | exact HB.out), by repeat (first | (with_reducible first | exact HBW.out | apply below_alloc | apply pw_below_drewN | apply below_drew1 | refine below_set ?_ GW103.out) | exact HBW.out)⟩

def spec_l15Rd_pick.j0 : Nat → Int → Bool → List Int → Int → Option (Int × Int)
  | 0, _, _, _, _ => none
  | k + 1, x1, x24, x1000, x1001 => if x24 = true then (some (0, x1001)) else (if (wrap64 (x1001 - 1)) < (x1000.length : Int) then (if 0 ≤ (wrap64 (x1001 - 1)) then (if x1 = 0 then (none) else (some (Int.tmod (wrap64 (rd x1000 (wrap64 (x1001 - 1)))) x1, x1001))) else (none)) else (if (x1000.length : Int) = 0 then (none) else (if 0 ≤ (Int.tmod (wrap64 (x1001 - 1)) (x1000.length : Int)) then (if (Int.tmod (wrap64 (x1001 - 1)) (x1000.length : Int)) < (x1000.length : Int) then (if 0 ≤ (Int.tmod (wrap64 ((wrap64 ((wrap64 (x1001 - 1)) * 7)) + 3)) (x1000.length : Int)) then (if (Int.tmod (wrap64 ((wrap64 ((wrap64 (x1001 - 1)) * 7)) + 3)) (x1000.length : Int)) < (x1000.length : Int) then (if x1 = 0 then (none) else (some (Int.tmod (Go.bits .xor .i64 (wrap64 ((wrap64 ((wrap64 ((wrap64 ((wrap64 (rd x1000 (Int.tmod (wrap64 (x1001 - 1)) (x1000.length : Int)))) * 131)) + (wrap64 ((wrap64 (rd x1000 (Int.tmod (wrap64 ((wrap64 ((wrap64 (x1001 - 1)) * 7)) + 3)) (x1000.length : Int)))) * 1117)))) + (wrap64 ((wrap64 (x1001 - 1)) * 29)))) + (wrap64 ((wrap64 (Int.tdiv (wrap64 (x1001 - 1)) (x1000.length : Int))) * 53)))) (wrap64 (Int.tdiv (wrap64 ((wrap64 ((wrap64 ((wrap64 ((wrap64 (rd x1000 (Int.tmod (wrap64 (x1001 - 1)) (x1000.length : Int)))) * 131)) + (wrap64 ((wrap64 (rd x1000 (Int.tmod (wrap64 ((wrap64 ((wrap64 (x1001 - 1)) * 7)) + 3)) (x1000.length : Int)))) * 1117)))) + (wrap64 ((wrap64 (x1001 - 1)) * 29)))) + (wrap64 ((wrap64 (Int.tdiv (wrap64 (x1001 - 1)) (x1000.length : Int))) * 53)))) 64))) x1, x1001))) else (none)) else (none)) else (none)) else (none))))
def spec_l15Rd_pick.f (k : Nat) (s0_0 : List Int) (s0_1 : Int) (a1 : Int) : Option (Int × Int) := if a1 < 1 then (spec_l15Rd_pick.j0 k a1 true s0_0 (wrap64 (s0_1 + 1))) else (spec_l15Rd_pick.j0 k a1 ((s0_0.length : Int) == 0) s0_0 (wrap64 (s0_1 + 1)))
theorem spec_l15Rd_pick.mono_l : ∀ k, (∀ y0 y1 y2 y3, LeO (spec_l15Rd_pick.j0 k y0 y1 y2 y3) (spec_l15Rd_pick.j0 (k + 1) y0 y1 y2 y3))
  | 0 => fun _ _ _ _ r h => by simp [spec_l15Rd_pick.j0] at h
  | k + 1 => by
    have ih0 := spec_l15Rd_pick.mono_l k
    · intro y0 y1 y2 y3
      unfold spec_l15Rd_pick.j0
      repeat' first
      | (with_reducible exact ih0 _ _ _ _)
      | (with_reducible exact LeO.refl _)
      | (with_reducible exact LeO.none _)
      | (with_reducible refine LeO.ite ?_ ?_)
      | (with_reducible refine LeO.bind ?_ (fun _ => ?_))
      | exact ih0 _ _ _ _
      | exact LeO.none _
      | refine LeO.ite ?_ ?_
      | refine LeO.bind ?_ (fun _ => ?_)
theorem spec_l15Rd_pick.mono : ∀ a0 a1 a2 k, LeO (spec_l15Rd_pick.f k a0 a1 a2) (spec_l15Rd_pick.f (k + 1) a0 a1 a2) := by
  intro a0 a1 a2 k
  have ih0 := spec_l15Rd_pick.mono_l k
  unfold spec_l15Rd_pick.f
  repeat' first
      | (with_reducible exact ih0 _ _ _ _)
      | (with_reducible exact LeO.refl _)
      | (with_reducible exact LeO.none _)
      | (with_reducible refine LeO.ite ?_ ?_)
      | (with_reducible refine LeO.bind ?_ (fun _ => ?_))
      | exact ih0 _ _ _ _
      | exact LeO.none _
      | refine LeO.ite ?_ ?_
      | refine LeO.bind ?_ (fun _ => ?_)
set_option maxHeartbeats 8000000 in
set_option maxRecDepth 100000 in
theorem spec_l15Rd_pick.calls (k : Nat) (g : Nat) (s0_0 : List Int) (s0_1 : Int) (a1 : Int) (r1 : Int) (r2 : Int) (w0 w : World) (hI : IsS78 w0 w g s0_0 s0_1) (hB : Below w0.heap.size w0 w) (h : spec_l15Rd_pick.f k s0_0 s0_1 a1 = some (r1, r2)) :
    Calls Try.prog 67 #[.pointer (some ⟨g, 0, none⟩), .int .i64 a1] w fun e w' => e = .returned (.int .i64 r1) ∧ IsS78 w0 w' g s0_0 r2 ∧ Below w0.heap.size w0 w' ∧ KeepBut w w' g none := by
  have HI0 := Aside0.mk hI
  have HK := Aside0.mk (KeepBut.refl w g none)
  have HL := Aside0.mk hB.size
  clear hI
  have HW0 := Aside0.mk hB.size
  have HB := Aside0.mk hB
  clear hB
  have H : (if a1 < 1 then (spec_l15Rd_pick.j0 k a1 true s0_0 (wrap64 (s0_1 + 1))) else (spec_l15Rd_pick.j0 k a1 ((s0_0.length : Int) == 0) s0_0 (wrap64 (s0_1 + 1)))) = some (r1, r2) := h
  clear h
  have HC3 := Aside0.mk H
  clear H
  obtain ⟨ASz4_0, cSz4_0, HGz4, hgz4, HSz4_0⟩ := HI0.out
  have hcz4_0 := cellS78_0 HGz4
  have hcz4_1 := cellS78_1 HGz4
  have hfz4_1 := blk_frozen HGz4 1
  clear HGz4 hgz4
  go_enter Try.func67, Try.ntmps67
  go_upto_region 2 with (fail)
  repeat (go_quiet (fail); go_upto_region 2 with (fail))
  go_cut [24] (fun v24 wc => ∃ (kq : Nat) (x24_2 : Bool), v24 = .bool x24_2 ∧ Aside0 (spec_l15Rd_pick.j0 kq a1 x24_2 s0_0 (wrap64 (s0_1 + 1)) = some (r1, r2)) ∧ Aside0 (kq ≤ k) ∧ Aside0 (IsS78 w0 wc g s0_0 (wrap64 (s0_1 + 1))) ∧ Aside0 (KeepBut w wc g none) ∧ Aside0 (Below w0.heap.size w0 wc))
  case first =>
    have H := HC3.out
    clear HC3
    by_cases c5 : a1 < 1
    · rw [if_pos c5] at H
      have c5b0 : decide (a1 < 1) = true := decide_eq_true c5
      clear c5
      (first | rw [c5b0] | (simp only [i64_w, i32_w]; rw [c5b0]) | skip)
      have H' := Aside0.mk H
      clear H
      go_wp2
      repeat (go_quiet (fail); try go_wp2)
      go_meet
      case rel => exact ⟨_, (true), (by first | rfl | (simp; done) | (simp [*]; done)), H', ⟨by first | omega | exact Nat.le_refl _⟩, ⟨by repeat (first | (with_reducible first | exact HI0.out | apply IsS78.alloc | apply IsS78.drewN | apply IsS78.drew | apply IsS78.set_1) | exact HI0.out)⟩, ⟨by repeat (first | (with_reducible first | exact HK.out | apply KeepBut.set_ | apply keep_drewN | apply keep_drew | apply keep_alloc) | exact HK.out)⟩, ⟨by repeat (first | (with_reducible first | exact HB.out | apply below_alloc | apply pw_below_drewN | apply below_drew1 | refine below_set ?_ (IsS78.ge HI0.out)) | exact HB.out)⟩⟩
    · rw [if_neg c5] at H
      have c5b0 : decide (a1 < 1) = false := decide_eq_false c5
      clear c5
      (first | rw [c5b0] | (simp only [i64_w, i32_w]; rw [c5b0]) | skip)
      have H' := Aside0.mk H
      clear H
      obtain ⟨ASz6_0, cSz6_0, HGz6, hgz6, HSz6_0⟩ := HI0.out
      have hcz6_0 := cellS78_0 HGz6
      have hcz6_1 := cellS78_1 HGz6
      have hfz6_1 := blk_frozen HGz6 1
      clear HGz6 hgz6
      go_wp2
      repeat (go_quiet (fail); try go_wp2)
      go_meet
      case rel => exact ⟨_, (((s0_0.length : Int) == 0)), (by first | rfl | (simp; done) | (simp [*]; done)), H', ⟨by first | omega | exact Nat.le_refl _⟩, ⟨by repeat (first | (with_reducible first | exact HI0.out | apply IsS78.alloc | apply IsS78.drewN | apply IsS78.drew | apply IsS78.set_1) | exact HI0.out)⟩, ⟨by repeat (first | (with_reducible first | exact HK.out | apply KeepBut.set_ | apply keep_drewN | apply keep_drew | apply keep_alloc) | exact HK.out)⟩, ⟨by repeat (first | (with_reducible first | exact HB.out | apply below_alloc | apply pw_below_drewN | apply below_drew1 | refine below_set ?_ (IsS78.ge HI0.out)) | exact HB.out)⟩⟩
  case rest =>
    clear HC3
    try clear p2
    try clear c5
    try clear c5b0
    try clear c6
    try clear p6
    try clear hcz4_0
    try clear hcz4_1
    try clear hcz6_0
    try clear hcz6_1
    try clear hfz4_1
    try clear hfz6_1
    obtain ⟨kq, x24_2, rfl, HA, HJ2, HI0, HK, HB⟩ := hcut
    cases kq with
    | zero => exact absurd HA.out (by simp [spec_l15Rd_pick.j0])
    | succ kj2 =>
      have H := HA.out
      clear HA
      simp only [spec_l15Rd_pick.j0] at H
      by_cases c7 : x24_2 = true
      · subst c7
        have H1 : (some (0, (wrap64 (s0_1 + 1)))) = some (r1, r2) := by rw [if_pos rfl] at H; exact H
        clear H
        have H := H1
        clear H1
        simp only [Option.some.injEq, Prod.mk.injEq] at H
        obtain ⟨rfl, rfl⟩ := H
        go_wp2
        repeat (go_quiet (fail); try go_wp2)
        go_ret
        exact ⟨by first | rfl | (simp [errW_none, errW_some] <;> rfl) | (simp [*, errW_none, errW_some] <;> rfl), by repeat (first | (with_reducible first | exact HI0.out | apply IsS78.alloc | apply IsS78.drewN | apply IsS78.drew | apply IsS78.set_1) | exact HI0.out), by repeat (first | (with_reducible first | exact HB.out | apply below_alloc | apply pw_below_drewN | apply below_drew1 | refine below_set ?_ (IsS78.ge HI0.out)) | exact HB.out), by repeat (first | (with_reducible first | exact HK.out | apply KeepBut.set_ | apply keep_drewN | apply keep_drew | apply keep_alloc) | exact HK.out)⟩
      · replace c7 := Bool.eq_false_iff.mpr c7
        subst c7
        have H1 : (if (wrap64 ((wrap64 (s0_1 + 1)) - 1)) < (s0_0.length : Int) then (if 0 ≤ (wrap64 ((wrap64 (s0_1 + 1)) - 1)) then (if a1 = 0 then (none) else (some (Int.tmod (wrap64 (rd s0_0 (wrap64 ((wrap64 (s0_1 + 1)) - 1)))) a1, (wrap64 (s0_1 + 1))))) else (none)) else (if (s0_0.length : Int) = 0 then (none) else (if 0 ≤ (Int.tmod (wrap64 ((wrap64 (s0_1 + 1)) - 1)) (s0_0.length : Int)) then (if (Int.tmod (wrap64 ((wrap64 (s0_1 + 1)) - 1)) (s0_0.length : Int)) < (s0_0.length : Int) then (if 0 ≤ (Int.tmod (wrap64 ((wrap64 ((wrap64 ((wrap64 (s0_1 + 1)) - 1)) * 7)) + 3)) (s0_0.length : Int)) then (if (Int.tmod (wrap64 ((wrap64 ((wrap64 ((wrap64 (s0_1 + 1)) - 1)) * 7)) + 3)) (s0_0.length : Int)) < (s0_0.length : Int) then (if a1 = 0 then (none) else (some (Int.tmod (Go.bits .xor .i64 (wrap64 ((wrap64 ((wrap64 ((wrap64 ((wrap64 (rd s0_0 (Int.tmod (wrap64 ((wrap64 (s0_1 + 1)) - 1)) (s0_0.length : Int)))) * 131)) + (wrap64 ((wrap64 (rd s0_0 (Int.tmod (wrap64 ((wrap64 ((wrap64 ((wrap64 (s0_1 + 1)) - 1)) * 7)) + 3)) (s0_0.length : Int)))) * 1117)))) + (wrap64 ((wrap64 ((wrap64 (s0_1 + 1)) - 1)) * 29)))) + (wrap64 ((wrap64 (Int.tdiv (wrap64 ((wrap64 (s0_1 + 1)) - 1)) (s0_0.length : Int))) * 53)))) (wrap64 (Int.tdiv (wrap64 ((wrap64 ((wrap64 ((wrap64 ((wrap64 (rd s0_0 (Int.tmod (wrap64 ((wrap64 (s0_1 + 1)) - 1)) (s0_0.length : Int)))) * 131)) + (wrap64 ((wrap64 (rd s0_0 (Int.tmod (wrap64 ((wrap64 ((wrap64 ((wrap64 (s0_1 + 1)) - 1)) * 7)) + 3)) (s0_0.length : Int)))) * 1117)))) + (wrap64 ((wrap64 ((wrap64 (s0_1 + 1)) - 1)) * 29)))) + (wrap64 ((wrap64 (Int.tdiv (wrap64 ((wrap64 (s0_1 + 1)) - 1)) (s0_0.length : Int))) * 53)))) 64))) a1, (wrap64 (s0_1 + 1))))) else (none)) else (none)) else (none)) else (none)))) = some (r1, r2) := by rw [if_neg (show ¬ (false = true) by decide)] at H; exact H
        clear H
        have H := H1
        clear H1
        by_cases c8 : (wrap64 ((wrap64 (s0_1 + 1)) - 1)) < (s0_0.length : Int)
        · rw [if_pos c8] at H
          have c8b0 : decide ((wrap64 ((wrap64 (s0_1 + 1)) - 1)) < (s0_0.length : Int)) = true := decide_eq_true c8
          clear c8
          obtain ⟨ji9, hji9⟩ : ∃ j_ : Int, (wrap64 ((wrap64 (s0_1 + 1)) - 1)) = j_ := ⟨_, rfl⟩
          replace H : (if 0 ≤ (ji9) then (if a1 = 0 then (none) else (some (Int.tmod (wrap64 (rd s0_0 (ji9))) a1, (wrap64 (s0_1 + 1))))) else (none)) = some (r1, r2) := by first | (rw [hji9] at H; exact H) | (simp only [hji9] at H ⊢; exact H)
          (try rw [hji9] at c8b0)
          have hji9w : (IntKind.i64.wrap ((wrap64 (s0_1 + 1)) - 1)) = ji9 := (i64_w _).trans hji9
          by_cases c10 : 0 ≤ (ji9)
          · rw [if_pos c10] at H
            have c10b0 : decide (0 ≤ (ji9)) = true := decide_eq_true c10
            clear c10
            by_cases c11 : a1 = 0
            · rw [if_pos c11] at H
              exact absurd H (by simp)
            · rw [if_neg c11] at H
              have c11b0 : (a1 == 0) = false := beq_eq_false_iff_ne.mpr c11
              have c11b1 : (a1 != 0) = true := bne_iff_ne.mpr c11
              simp only [Option.some.injEq, Prod.mk.injEq] at H
              obtain ⟨rfl, rfl⟩ := H
              obtain ⟨ASz12_0, cSz12_0, HGz12, hgz12, HSz12_0⟩ := HI0.out
              have hcz12_0 := cellS78_0 HGz12
              have hcz12_1 := cellS78_1 HGz12
              have hfz12_1 := blk_frozen HGz12 1
              clear HGz12 hgz12
              have p104 : 0 ≤ ((ji9) : Int) := of_decide_eq_true (by first | (with_reducible assumption) | assumption)
              have q104 : (ji9) < (s0_0.length : Int) := of_decide_eq_true (by first | (with_reducible assumption) | assumption)
              obtain ⟨ad104, e104, hx104_0⟩ := Kd.at_int HSz12_0 (ji9) p104 q104
              cases e104
              replace hx104_0 := pw_cell_below HB.out hx104_0
              replace p104 := eq_true p104
              replace q104 := eq_true q104
              go_wp2
              repeat (go_quiet (fail); try go_wp2)
              go_ret
              exact ⟨by first | rfl | (simp [errW_none, errW_some] <;> rfl) | (simp only [← hji9]; first | rfl | (simp [errW_none, errW_some] <;> rfl)) | (simp [*, errW_none, errW_some] <;> rfl), by repeat (first | (with_reducible first | exact HI0.out | apply IsS78.alloc | apply IsS78.drewN | apply IsS78.drew | apply IsS78.set_1) | exact HI0.out), by repeat (first | (with_reducible first | exact HB.out | apply below_alloc | apply pw_below_drewN | apply below_drew1 | refine below_set ?_ (IsS78.ge HI0.out)) | exact HB.out), by repeat (first | (with_reducible first | exact HK.out | apply KeepBut.set_ | apply keep_drewN | apply keep_drew | apply keep_alloc) | exact HK.out)⟩
          · rw [if_neg c10] at H
            exact absurd H (by simp)
        · rw [if_neg c8] at H
          have c8b0 : decide ((wrap64 ((wrap64 (s0_1 + 1)) - 1)) < (s0_0.length : Int)) = false := decide_eq_false c8
          clear c8
          by_cases c13 : (s0_0.length : Int) = 0
          · rw [if_pos c13] at H
            exact absurd H (by simp)
          · rw [if_neg c13] at H
            have c13b0 : ((s0_0.length : Int) == 0) = false := beq_eq_false_iff_ne.mpr c13
            have c13b1 : ((s0_0.length : Int) != 0) = true := bne_iff_ne.mpr c13
            have c13b2 : ¬ (s0_0 = []) := fun h_ => c13 (by rw [h_]; rfl)
            obtain ⟨ji14, hji14⟩ : ∃ j_ : Int, (Int.tmod (wrap64 ((wrap64 (s0_1 + 1)) - 1)) (s0_0.length : Int)) = j_ := ⟨_, rfl⟩
            replace H : (if 0 ≤ (ji14) then (if (ji14) < (s0_0.length : Int) then (if 0 ≤ (Int.tmod (wrap64 ((wrap64 ((wrap64 ((wrap64 (s0_1 + 1)) - 1)) * 7)) + 3)) (s0_0.length : Int)) then (if (Int.tmod (wrap64 ((wrap64 ((wrap64 ((wrap64 (s0_1 + 1)) - 1)) * 7)) + 3)) (s0_0.length : Int)) < (s0_0.length : Int) then (if a1 = 0 then (none) else (some (Int.tmod (Go.bits .xor .i64 (wrap64 ((wrap64 ((wrap64 ((wrap64 ((wrap64 (rd s0_0 (ji14))) * 131)) + (wrap64 ((wrap64 (rd s0_0 (Int.tmod (wrap64 ((wrap64 ((wrap64 ((wrap64 (s0_1 + 1)) - 1)) * 7)) + 3)) (s0_0.length : Int)))) * 1117)))) + (wrap64 ((wrap64 ((wrap64 (s0_1 + 1)) - 1)) * 29)))) + (wrap64 ((wrap64 (Int.tdiv (wrap64 ((wrap64 (s0_1 + 1)) - 1)) (s0_0.length : Int))) * 53)))) (wrap64 (Int.tdiv (wrap64 ((wrap64 ((wrap64 ((wrap64 ((wrap64 (rd s0_0 (ji14))) * 131)) + (wrap64 ((wrap64 (rd s0_0 (Int.tmod (wrap64 ((wrap64 ((wrap64 ((wrap64 (s0_1 + 1)) - 1)) * 7)) + 3)) (s0_0.length : Int)))) * 1117)))) + (wrap64 ((wrap64 ((wrap64 (s0_1 + 1)) - 1)) * 29)))) + (wrap64 ((wrap64 (Int.tdiv (wrap64 ((wrap64 (s0_1 + 1)) - 1)) (s0_0.length : Int))) * 53)))) 64))) a1, (wrap64 (s0_1 + 1))))) else (none)) else (none)) else (none)) else (none)) = some (r1, r2) := by first | (rw [hji14] at H; exact H) | (simp only [hji14] at H ⊢; exact H)
            by_cases c15 : 0 ≤ (ji14)
            · rw [if_pos c15] at H
              have c15b0 : decide (0 ≤ (ji14)) = true := decide_eq_true c15
              clear c15
              by_cases c16 : (ji14) < (s0_0.length : Int)
              · rw [if_pos c16] at H
                have c16b0 : decide ((ji14) < (s0_0.length : Int)) = true := decide_eq_true c16
                clear c16
                obtain ⟨ji17, hji17⟩ : ∃ j_ : Int, (Int.tmod (wrap64 ((wrap64 ((wrap64 ((wrap64 (s0_1 + 1)) - 1)) * 7)) + 3)) (s0_0.length : Int)) = j_ := ⟨_, rfl⟩
                replace H : (if 0 ≤ (ji17) then (if (ji17) < (s0_0.length : Int) then (if a1 = 0 then (none) else (some (Int.tmod (Go.bits .xor .i64 (wrap64 ((wrap64 ((wrap64 ((wrap64 ((wrap64 (rd s0_0 (ji14))) * 131)) + (wrap64 ((wrap64 (rd s0_0 (ji17))) * 1117)))) + (wrap64 ((wrap64 ((wrap64 (s0_1 + 1)) - 1)) * 29)))) + (wrap64 ((wrap64 (Int.tdiv (wrap64 ((wrap64 (s0_1 + 1)) - 1)) (s0_0.length : Int))) * 53)))) (wrap64 (Int.tdiv (wrap64 ((wrap64 ((wrap64 ((wrap64 ((wrap64 (rd s0_0 (ji14))) * 131)) + (wrap64 ((wrap64 (rd s0_0 (ji17))) * 1117)))) + (wrap64 ((wrap64 ((wrap64 (s0_1 + 1)) - 1)) * 29)))) + (wrap64 ((wrap64 (Int.tdiv (wrap64 ((wrap64 (s0_1 + 1)) - 1)) (s0_0.length : Int))) * 53)))) 64))) a1, (wrap64 (s0_1 + 1))))) else (none)) else (none)) = some (r1, r2) := by first | (rw [hji17] at H; exact H) | (simp only [hji17] at H ⊢; exact H)
                by_cases c18 : 0 ≤ (ji17)
                · rw [if_pos c18] at H
                  have c18b0 : decide (0 ≤ (ji17)) = true := decide_eq_true c18
                  clear c18
                  by_cases c19 : (ji17) < (s0_0.length : Int)
                  · rw [if_pos c19] at H
                    have c19b0 : decide ((ji17) < (s0_0.length : Int)) = true := decide_eq_true c19
                    clear c19
                    by_cases c20 : a1 = 0
                    · rw [if_pos c20] at H
                      exact absurd H (by simp)
                    · rw [if_neg c20] at H
                      have c20b0 : (a1 == 0) = false := beq_eq_false_iff_ne.mpr c20
                      have c20b1 : (a1 != 0) = true := bne_iff_ne.mpr c20
                      simp only [Option.some.injEq, Prod.mk.injEq] at H
                      obtain ⟨rfl, rfl⟩ := H
                      obtain ⟨ASz21_0, cSz21_0, HGz21, hgz21, HSz21_0⟩ := HI0.out
                      have hcz21_0 := cellS78_0 HGz21
                      have hcz21_1 := cellS78_1 HGz21
                      have hfz21_1 := blk_frozen HGz21 1
                      clear HGz21 hgz21
                      have p105 : 0 ≤ ((ji14) : Int) := of_decide_eq_true (by first | (with_reducible assumption) | assumption)
                      have q105 : (ji14) < (s0_0.length : Int) := of_decide_eq_true (by first | (with_reducible assumption) | assumption)
                      obtain ⟨ad105, e105, hx105_0⟩ := Kd.at_int HSz21_0 (ji14) p105 q105
                      cases e105
                      replace hx105_0 := pw_cell_below HB.out hx105_0
                      replace p105 := eq_true p105
                      replace q105 := eq_true q105
                      have p106 : 0 ≤ ((ji17) : Int) := of_decide_eq_true (by first | (with_reducible assumption) | assumption)
                      have q106 : (ji17) < (s0_0.length : Int) := of_decide_eq_true (by first | (with_reducible assumption) | assumption)
                      obtain ⟨ad106, e106, hx106_0⟩ := Kd.at_int HSz21_0 (ji17) p106 q106
                      obtain rfl : ad105 = ad106 := (by injection e106)
                      replace hx106_0 := pw_cell_below HB.out hx106_0
                      replace p106 := eq_true p106
                      replace q106 := eq_true q106
                      go_wp2
                      repeat (go_quiet (fail); try go_wp2)
                      go_ret
                      exact ⟨by first | rfl | (simp [errW_none, errW_some] <;> rfl) | (simp only [← hji14, ← hji17]; first | rfl | (simp [errW_none, errW_some] <;> rfl)) | (simp [*, errW_none, errW_some] <;> rfl), by repeat (first | (with_reducible first | exact HI0.out | apply IsS78.alloc | apply IsS78.drewN | apply IsS78.drew | apply IsS78.set_1) | exact HI0.out), by repeat (first | (with_reducible first | exact HB.out | apply below_alloc | apply pw_below_drewN | apply below_drew1 | refine below_set ?_ (IsS78.ge HI0.out)) | exact HB.out), by repeat (first | (with_reducible first | exact HK.out | apply KeepBut.set_ | apply keep_drewN | apply keep_drew | apply keep_alloc) | exact HK.out)⟩
                  · rw [if_neg c19] at H
                    exact absurd H (by simp)
                · rw [if_neg c18] at H
                  exact absurd H (by simp)
              · rw [if_neg c16] at H
                exact absurd H (by simp)
            · rw [if_neg c15] at H
              exact absurd H (by simp)

def spec_l15Rd_num.f (k : Nat) (s0_0 : List Int) (s0_1 : Int) (l1 : List Int) : Option (Int × Int) := (spec_l15Rd_pick.f k s0_0 s0_1 (l1.length : Int)).bind fun bt107 => (if 0 ≤ bt107.1 then (if bt107.1 < (l1.length : Int) then (some (rd l1 bt107.1, bt107.2)) else (none)) else (none))
theorem spec_l15Rd_num.mono : ∀ a0 a1 a2 k, LeO (spec_l15Rd_num.f k a0 a1 a2) (spec_l15Rd_num.f (k + 1) a0 a1 a2) := by
  intro a0 a1 a2 k
  unfold spec_l15Rd_num.f
  repeat' first
      | (with_reducible exact spec_l15Rd_pick.mono _ _ _ _)
      | (with_reducible exact LeO.refl _)
      | (with_reducible exact LeO.none _)
      | (with_reducible refine LeO.ite ?_ ?_)
      | (with_reducible refine LeO.bind ?_ (fun _ => ?_))
      | exact spec_l15Rd_pick.mono _ _ _ _
      | exact LeO.none _
      | refine LeO.ite ?_ ?_
      | refine LeO.bind ?_ (fun _ => ?_)
set_option maxHeartbeats 8000000 in
set_option maxRecDepth 100000 in
theorem spec_l15Rd_num.calls (k : Nat) (g : Nat) (s0_0 : List Int) (s0_1 : Int) (A1 : Option Addr) (c1 : Nat) (l1 : List Int) (r1 : Int) (r2 : Int) (w0 w : World) (hI : IsS78 w0 w g s0_0 s0_1) (hB : Below w0.heap.size w0 w) (hr1 : Kd.C (Kd.int .i64) w A1 l1.length l1) (hc1 : l1.length ≤ c1) (hf1 : ∀ ad, A1 = some ad → 0 < l1.length → ad.block ≠ g) (h : spec_l15Rd_num.f k s0_0 s0_1 l1 = some (r1, r2)) :
    Calls Try.prog 56 #[.pointer (some ⟨g, 0, none⟩), .slice A1 l1.length c1] w fun e w' => e = .returned (.int .i64 r1) ∧ IsS78 w0 w' g s0_0 r2 ∧ Below w0.heap.size w0 w' ∧ KeepBut w w' g none := by
  have HR1 := Aside0.mk hr1
  have HC1 := Aside0.mk hc1
  clear hr1 hc1
  have HI0 := Aside0.mk hI
  have HK := Aside0.mk (KeepBut.refl w g none)
  have HL := Aside0.mk hB.size
  clear hI
  have HW0 := Aside0.mk hB.size
  have HB := Aside0.mk hB
  clear hB
  have H : ((spec_l15Rd_pick.f k s0_0 s0_1 (l1.length : Int)).bind fun bt107 => (if 0 ≤ bt107.1 then (if bt107.1 < (l1.length : Int) then (some (rd l1 bt107.1, bt107.2)) else (none)) else (none))) = some (r1, r2) := h
  clear h
  replace H := Option.bind_eq_some_iff.mp H
  obtain ⟨⟨t107, t108⟩, A30, H⟩ := H
  replace H : (if 0 ≤ t107 then (if t107 < (l1.length : Int) then (some (rd l1 t107, t108)) else (none)) else (none)) = some (r1, r2) := H
  have A3 := Aside0.mk A30
  clear A30
  by_cases c4 : 0 ≤ t107
  · rw [if_pos c4] at H
    have c4b0 : decide (0 ≤ t107) = true := decide_eq_true c4
    clear c4
    by_cases c5 : t107 < (l1.length : Int)
    · rw [if_pos c5] at H
      have c5b0 : decide (t107 < (l1.length : Int)) = true := decide_eq_true c5
      clear c5
      simp only [Option.some.injEq, Prod.mk.injEq] at H
      obtain ⟨rfl, rfl⟩ := H
      go_enter Try.func56, Try.ntmps56
      go_wp2_with (first | ((with_reducible refine gate_callee (f := 67) rfl ?_); refine goesL_ (some 9) rfl rfl Try.func67 (by kernel_rfl) rfl #[.pointer (some ⟨g, 0, none⟩), .int .i64 (l1.length : Int)] rfl (by (try simp only [List.map_toArray, List.map_cons, List.map_nil]); first | done | rfl | (simp only [List.length_drop, List.length_take]; rfl)) ?_; (with_reducible refine (spec_l15Rd_pick.calls k g s0_0 s0_1 (l1.length : Int) t107 t108 w0 _ ?side1 ?side2 A3.out).mono ?_); (case side1 => repeat (first | (with_reducible first | exact HI0.out | apply IsS78.alloc | apply IsS78.drewN | apply IsS78.drew | apply IsS78.set_1) | exact HI0.out)); (case side2 => repeat (first | (with_reducible first | exact HB.out | apply below_alloc | apply pw_below_drewN | apply below_drew1 | refine below_set ?_ (IsS78.ge HI0.out)) | exact HB.out)); rintro e w6 ⟨rfl, hi, hb, hk⟩; refine ⟨_, rfl, ?_⟩; have n0_ := Aside0.mk (KeepBut.trans (by repeat (first | (with_reducible first | exact HK.out | apply KeepBut.set_ | apply keep_drewN | apply keep_drew | apply keep_alloc) | exact HK.out)) hk (.inl rfl)); have n1_ := Aside0.mk (hb); have n2_ := Aside0.mk (hi); clear HK; clear HB; clear HI0; have HK := n0_; have HB := n1_; have HI0 := n2_; clear n0_ n1_ n2_; (try clear hb); (try clear hb2); (try clear hk); (try clear hi); have p109 : 0 ≤ (t107 : Int) := of_decide_eq_true (by first | (with_reducible assumption) | assumption); have q109 : t107 < (l1.length : Int) := of_decide_eq_true (by first | (with_reducible assumption) | assumption); obtain ⟨ad109, e109, hx109_0⟩ := Kd.at_int HR1.out t107 p109 q109; cases e109; replace hx109_0 := keep_cell HK.out hx109_0 (by first | (rw [add_block]; exact hf1 _ rfl (by omega)) | exact hf1 _ rfl (by omega) | exact hf1 ad109 rfl (by omega)); replace p109 := eq_true p109; replace q109 := eq_true q109))
      go_ret
      exact ⟨by first | rfl | (simp [errW_none, errW_some] <;> rfl) | (simp [*, errW_none, errW_some] <;> rfl), by repeat (first | (with_reducible first | exact HI0.out | apply IsS78.alloc | apply IsS78.drewN | apply IsS78.drew | apply IsS78.set_1) | exact HI0.out), by repeat (first | (with_reducible first | exact HB.out | apply below_alloc | apply pw_below_drewN | apply below_drew1 | refine below_set ?_ (IsS78.ge HI0.out)) | exact HB.out), by repeat (first | (with_reducible first | exact HK.out | apply KeepBut.set_ | apply keep_drewN | apply keep_drew | apply keep_alloc) | exact HK.out)⟩
    · rw [if_neg c5] at H
      exact absurd H (by simp)
  · rw [if_neg c4] at H
    exact absurd H (by simp)

def spec_l3Copy.l0 : Nat → List (S36) → List (S36) → Int → Option ((List (S36)))
  | 0, _, _, _ => none
  | k + 1, x0, x3, x4 => if x4 < (x0.length : Int) then (if 0 ≤ x4 then ((some (([] : List Int) : List Int)).bind fun y115 => (if y115.length + ((rd_T36 x0 x4).f1).length < 17592186044416 then (if x3.length < 2932031007402 then (spec_l3Copy.l0 k x0 (x3 ++ [(⟨(rd_T36 x0 x4).f0, (y115 ++ ((rd_T36 x0 x4).f1)), (rd_T36 x0 x4).f2⟩ : S36)]) (wrap64 (x4 + 1))) else (none)) else (none))) else (none)) else (some x3)
def spec_l3Copy.f (k : Nat) (l0 : List (S36)) : Option ((List (S36))) := spec_l3Copy.l0 k l0 (([] : List (S36))) 0
theorem spec_l3Copy.mono_l : ∀ k, (∀ y0 y1 y2, LeO (spec_l3Copy.l0 k y0 y1 y2) (spec_l3Copy.l0 (k + 1) y0 y1 y2))
  | 0 => fun _ _ _ r h => by simp [spec_l3Copy.l0] at h
  | k + 1 => by
    have ih0 := spec_l3Copy.mono_l k
    · intro y0 y1 y2
      unfold spec_l3Copy.l0
      repeat' first
      | (with_reducible exact ih0 _ _ _)
      | (with_reducible exact LeO.refl _)
      | (with_reducible exact LeO.none _)
      | (with_reducible refine LeO.ite ?_ ?_)
      | (with_reducible refine LeO.bind ?_ (fun _ => ?_))
      | exact ih0 _ _ _
      | exact LeO.none _
      | refine LeO.ite ?_ ?_
      | refine LeO.bind ?_ (fun _ => ?_)
theorem spec_l3Copy.mono : ∀ a0 k, LeO (spec_l3Copy.f k a0) (spec_l3Copy.f (k + 1) a0) := by
  intro a0 k
  have ih0 := spec_l3Copy.mono_l k
  unfold spec_l3Copy.f
  repeat' first
      | (with_reducible exact ih0 _ _ _)
      | (with_reducible exact LeO.refl _)
      | (with_reducible exact LeO.none _)
      | (with_reducible refine LeO.ite ?_ ?_)
      | (with_reducible refine LeO.bind ?_ (fun _ => ?_))
      | exact ih0 _ _ _
      | exact LeO.none _
      | refine LeO.ite ?_ ?_
      | refine LeO.bind ?_ (fun _ => ?_)
set_option maxHeartbeats 8000000 in
set_option maxRecDepth 100000 in
theorem spec_l3Copy.calls (k : Nat) (A0 : Option Addr) (c0 : Nat) (l0 : List (S36)) (r : List (S36)) (w : World) (hr0 : Kd.C k36 w A0 l0.length l0) (hc0 : l0.length ≤ c0) (h : spec_l3Copy.f k l0 = some r) :
    Calls Try.prog 59 #[.slice A0 l0.length c0] w fun e w' => ∃ v0_ : Value, e = .returned (v0_) ∧ Kd.S k36 36 w' w.heap.size (fun _ => True) v0_ r ∧ Below w.heap.size w w' := by
  have hu36 := Try.underlying36
  have HR0 := Aside0.mk hr0
  have HC0 := Aside0.mk hc0
  clear hr0 hc0
  have HB := Aside0.mk (Below.refl w.heap.size w)
  have H : (spec_l3Copy.l0 k l0 (([] : List (S36))) 0) = some r := h
  clear h
  obtain ⟨y110, hy110⟩ : ∃ y_ : List (S36), y_ = (([] : List (S36))) := ⟨_, rfl⟩
  replace H : (spec_l3Copy.l0 k l0 y110 0) = some r := by first | (rw [hy110]; with_reducible exact H) | (have H2_ := (Option.bind_some _ _).symm.trans H; rw [hy110]; with_reducible exact H2_) | (have H2_ := (Option.bind_some _ _).symm.trans H; with_reducible exact H2_) | with_reducible exact H | (rw [hy110]; exact H) | exact H
  have Ny110 := Aside0.mk hy110
  clear hy110
  have H' := Aside0.mk H
  clear H
  go_enter Try.func59, Try.ntmps59
  go_wp2_with (first | ((with_reducible refine gate_dst (N := 6) rfl ?_); refine Kd.S_lit k36 _ 36 ?hg (N := 6) ?hd (xs := ([] : List (S36))) (inner := []) (ok := fun _ => True) (okp := fun _ => True) ?hr ?hp (fun _ hk => hk) trivial (Below.refl _ _) (Nat.le_refl _) (by simp) ?_; (case hd => rfl); (case hg => rfl); (case hr => first | (go_simp; done) | (go_simp; rfl)); (case hp => exact (Reps.none _ _)); intro v111 w2 ho3 hb hg_ hnew_; clear hg_ hnew_; (first | rw [← Ny110.out] at ho3 | (simp only [Int.reduceToNat] at ho3; rw [← Ny110.out] at ho3)); have n0_ := Aside0.mk (Kd.S_lower ho3 (below_size (by repeat (first | (with_reducible first | exact HB.out | apply below_alloc | apply pw_below_drewN | apply below_drew1) | exact HB.out)))); have n1_ := Aside0.mk (below_step (by repeat (first | (with_reducible first | exact HB.out | apply below_alloc | apply pw_below_drewN | apply below_drew1) | exact HB.out)) hb); clear HB; have HO112 := n0_; have HB := n1_; clear n0_ n1_; clear hb ho3))
  go_loopg [3, 4] k (fun kq v3 v4 w' => ∃ (x3_1 : List (S36)) (x4_1 : Int), v4 = .int .i64 x4_1 ∧ Aside0 (spec_l3Copy.l0 kq l0 x3_1 x4_1 = some r) ∧ Aside0 (kq ≤ k) ∧ Aside0 (Kd.S k36 36 w' w.heap.size (fun _ => True) v3 x3_1) ∧ Aside0 (Below w.heap.size w w'))
  case atStart => exact ⟨(y110), (0), (by first | rfl | (simp; done) | (simp [*]; done)), H', ⟨Nat.le_refl _⟩, ⟨by (with_reducible repeat (first | apply Kd.S_alloc | apply Kd.S_drewN | apply Kd.S_drew)); exact HO112.out⟩, ⟨by repeat (first | (with_reducible first | exact HB.out | apply below_alloc | apply pw_below_drewN | apply below_drew1) | exact HB.out)⟩⟩
  case round =>
    clear H'
    try clear p2
    obtain ⟨x3_1, x4_1, rfl, HA, HK1, HO_3, HB⟩ := hrel
    cases gk with
    | zero => exact absurd HA.out (by simp [spec_l3Copy.l0])
    | succ k1 =>
      have H := HA.out
      clear HA
      simp only [spec_l3Copy.l0] at H
      by_cases c4 : x4_1 < (l0.length : Int)
      · rw [if_pos c4] at H
        have c4b0 : decide (x4_1 < (l0.length : Int)) = true := decide_eq_true c4
        clear c4
        by_cases c5 : 0 ≤ x4_1
        · rw [if_pos c5] at H
          have c5b0 : decide (0 ≤ x4_1) = true := decide_eq_true c5
          clear c5
          obtain ⟨y115, hy115⟩ : ∃ y_ : List Int, y_ = (([] : List Int)) := ⟨_, rfl⟩
          replace H : (if y115.length + ((rd_T36 l0 x4_1).f1).length < 17592186044416 then (if x3_1.length < 2932031007402 then (spec_l3Copy.l0 k1 l0 (x3_1 ++ [(⟨(rd_T36 l0 x4_1).f0, (y115 ++ ((rd_T36 l0 x4_1).f1)), (rd_T36 l0 x4_1).f2⟩ : S36)]) (wrap64 (x4_1 + 1))) else (none)) else (none)) = some r := by first | (rw [hy115]; with_reducible exact H) | (have H2_ := (Option.bind_some _ _).symm.trans H; rw [hy115]; with_reducible exact H2_) | (have H2_ := (Option.bind_some _ _).symm.trans H; with_reducible exact H2_) | with_reducible exact H | (rw [hy115]; exact H) | exact H
          have Ny115 := Aside0.mk hy115
          clear hy115
          by_cases c6 : y115.length + ((rd_T36 l0 x4_1).f1).length < 17592186044416
          · rw [if_pos c6] at H
            have LMc6 := Aside0.mk c6
            clear c6
            obtain ⟨y118, hy118⟩ : ∃ y_ : List Int, y_ = (y115 ++ ((rd_T36 l0 x4_1).f1)) := ⟨_, rfl⟩
            replace H : (if x3_1.length < 2932031007402 then (spec_l3Copy.l0 k1 l0 (x3_1 ++ [(⟨(rd_T36 l0 x4_1).f0, y118, (rd_T36 l0 x4_1).f2⟩ : S36)]) (wrap64 (x4_1 + 1))) else (none)) = some r := by first | (rw [hy118]; with_reducible exact H) | (have H2_ := (Option.bind_some _ _).symm.trans H; rw [hy118]; with_reducible exact H2_) | (have H2_ := (Option.bind_some _ _).symm.trans H; with_reducible exact H2_) | with_reducible exact H | (rw [hy118]; exact H) | exact H
            have Ny118 := Aside0.mk hy118
            clear hy118
            by_cases c7 : x3_1.length < 2932031007402
            · rw [if_pos c7] at H
              have LMc7 := Aside0.mk c7
              clear c7
              obtain ⟨y121, hy121⟩ : ∃ y_ : List (S36), y_ = (x3_1 ++ [(⟨(rd_T36 l0 x4_1).f0, y118, (rd_T36 l0 x4_1).f2⟩ : S36)]) := ⟨_, rfl⟩
              replace H : (spec_l3Copy.l0 k1 l0 y121 (wrap64 (x4_1 + 1))) = some r := by first | (rw [hy121]; with_reducible exact H) | (have H2_ := (Option.bind_some _ _).symm.trans H; rw [hy121]; with_reducible exact H2_) | (have H2_ := (Option.bind_some _ _).symm.trans H; with_reducible exact H2_) | with_reducible exact H | (rw [hy121]; exact H) | exact H
              have Ny121 := Aside0.mk hy121
              clear hy121
              have H' := Aside0.mk H
              clear H
              have p113 : 0 ≤ (x4_1 : Int) := of_decide_eq_true (by first | (with_reducible assumption) | assumption)
              have q113 : x4_1 < (l0.length : Int) := of_decide_eq_true (by first | (with_reducible assumption) | assumption)
              obtain ⟨ad113, A113_1, c113_1, e113, hx113_0, hx113_1, hx113_2, hl113_1, hi113_1⟩ := at_T36 HR0.out x4_1 p113 q113
              cases e113
              replace hx113_0 := (HB.out.cell (World.block_lt_of_cell? w _ hx113_0)).trans hx113_0
              replace hx113_1 := (HB.out.cell (World.block_lt_of_cell? w _ hx113_1)).trans hx113_1
              replace hx113_2 := (HB.out.cell (World.block_lt_of_cell? w _ hx113_2)).trans hx113_2
              have HR113_1 := Aside0.mk hi113_1
              have HC113_1 := Aside0.mk hl113_1
              clear hi113_1 hl113_1
              replace p113 := eq_true p113
              replace q113 := eq_true q113
              go_wp2_with (first | ((with_reducible refine gate_dst (N := 5) rfl ?_); refine box_event ?hg (N := 5) ?hd (cs := #[.string (⟨#[]⟩ : ByteArray), .slice none 0 0, .int .i64 0]) (t := 36) ?hr ?_; (case hd => rfl); (case hg => rfl); (case hr => first | (go_simp; done) | (go_simp; rfl)); intro gb114 hg w8 hbox hb; have n0_ := Aside0.mk (Kd.S_below (Kd.S_elderB (by (with_reducible repeat (first | apply Kd.S_alloc | apply Kd.S_drewN | apply Kd.S_drew)); exact HO_3.out) gb114 (Nat.le_of_eq hg.symm)) hb); have n1_ := Aside0.mk (below_step (by repeat (first | (with_reducible first | exact HB.out | apply below_alloc | apply pw_below_drewN | apply below_drew1) | exact HB.out)) hb); have n2_ := Aside0.mk (hbox); have n3_ := Aside0.mk ((by rw [hg]; exact (below_size (by repeat (first | (with_reducible first | exact HB.out | apply below_alloc | apply pw_below_drewN | apply below_drew1) | exact HB.out))) : w.heap.size ≤ gb114)); have n4_ := Aside0.mk ((by rw [hg]; exact (below_size (by repeat (first | (with_reducible first | exact HB.out | apply below_alloc | apply pw_below_drewN | apply below_drew1) | exact HB.out))) : w.heap.size ≤ gb114)); clear HO_3; clear HB; have HO_3 := n0_; have HB := n1_; have BK114 := n2_; have GW114 := n3_; have GE114 := n4_; clear n0_ n1_ n2_ n3_ n4_; clear hb hbox hg; have hcz9_0 : w8.cell? ⟨gb114, 0, none⟩ = some (.string (⟨#[]⟩ : ByteArray)) := (blk_cell BK114.out 0).trans rfl; have hcz9_1 : w8.cell? ⟨gb114, 1, none⟩ = some (.slice none 0 0) := (blk_cell BK114.out 1).trans rfl; have hcz9_2 : w8.cell? ⟨gb114, 2, none⟩ = some (.int .i64 0) := (blk_cell BK114.out 2).trans rfl; have hfz9_0 := blk_frozen BK114.out 0; have hfz9_1 := blk_frozen BK114.out 1; have hfz9_2 := blk_frozen BK114.out 2) | ((with_reducible refine gate_dst (N := 17) rfl ?_); refine Kd.R_lit (Kd.int .i64) _ 3 ?hg (N := 17) ?hd (xs := ([] : List Int)) (inner := []) (ok := fun _ => True) (okp := fun _ => True) ?hr ?hp (fun _ hk => hk) trivial (Below.refl _ _) (Nat.le_refl _) (by simp) ?_; (case hd => rfl); (case hg => rfl); (case hr => first | (go_simp; done) | (go_simp; rfl)); (case hp => exact (Reps.none _ _)); intro v116 w10 ho11 hb hg_ hnew_; clear hg_ hnew_; (first | rw [← Ny115.out] at ho11 | (simp only [Int.reduceToNat] at ho11; rw [← Ny115.out] at ho11)); have n0_ := Aside0.mk (Kd.S_elder' (by (with_reducible repeat (first | apply Kd.S_alloc | apply Kd.S_drewN | apply Kd.S_drew)); exact (Kd.S_mono (Kd.S_far (p := ⟨gb114, 2, none⟩) (Kd.S_far (p := ⟨gb114, 1, none⟩) (Kd.S_far (p := ⟨gb114, 0, none⟩) (Kd.S_mono HO_3.out (fun k_ hk => (⟨hk, hk.2⟩ : _ ∧ k_ ≠ gb114))) (fun _ hk => hk.2) (.string ((rd_T36 l0 x4_1).f0))) (fun _ hk => hk.2) (.slice A113_1 ((rd_T36 l0 x4_1).f1).length c113_1)) (fun _ hk => hk.2) (.int .i64 ((rd_T36 l0 x4_1).f2))) (fun _ h_ => h_.1))) (Kd.R_base ho11) hb); have n1_ := Aside0.mk (Kd.R_lower ho11 (below_size (by repeat (first | (with_reducible first | exact HB.out | apply below_alloc | apply pw_below_drewN | apply below_drew1 | refine below_set ?_ GE114.out) | exact HB.out)))); have n2_ := Aside0.mk (blk_below (g := gb114) (o := .cells #[.string ((rd_T36 l0 x4_1).f0), .slice A113_1 ((rd_T36 l0 x4_1).f1).length c113_1, .int .i64 ((rd_T36 l0 x4_1).f2)] 36 (0, 0)) (by (with_reducible repeat (first | refine blk_drewN ?_ _ | refine blk_drew ?_ | refine blk_alloc ?_ _)); refine blk_put (cs := #[.string ((rd_T36 l0 x4_1).f0), .slice A113_1 ((rd_T36 l0 x4_1).f1).length c113_1, .int .i64 0]) ?_ 2 _ rfl; (with_reducible repeat (first | refine blk_drewN ?_ _ | refine blk_drew ?_ | refine blk_alloc ?_ _)); refine blk_put (cs := #[.string ((rd_T36 l0 x4_1).f0), .slice none 0 0, .int .i64 0]) ?_ 1 _ rfl; (with_reducible repeat (first | refine blk_drewN ?_ _ | refine blk_drew ?_ | refine blk_alloc ?_ _)); refine blk_put (cs := #[.string (⟨#[]⟩ : ByteArray), .slice none 0 0, .int .i64 0]) ?_ 0 _ rfl; (with_reducible repeat (first | refine blk_drewN ?_ _ | refine blk_drew ?_ | refine blk_alloc ?_ _)); exact BK114.out) hb); have n3_ := Aside0.mk (below_step (by repeat (first | (with_reducible first | exact HB.out | apply below_alloc | apply pw_below_drewN | apply below_drew1 | refine below_set ?_ GE114.out) | exact HB.out)) hb); clear HO_3; clear BK114; clear HB; have HO_3 := n0_; have HO117 := n1_; have BK114 := n2_; have HB := n3_; clear n0_ n1_ n2_ n3_; clear hb ho11; have hcz12_0 : w10.cell? ⟨gb114, 0, none⟩ = some (.string ((rd_T36 l0 x4_1).f0)) := (blk_cell BK114.out 0).trans rfl; have hcz12_1 : w10.cell? ⟨gb114, 1, none⟩ = some (.slice A113_1 ((rd_T36 l0 x4_1).f1).length c113_1) := (blk_cell BK114.out 1).trans rfl; have hcz12_2 : w10.cell? ⟨gb114, 2, none⟩ = some (.int .i64 ((rd_T36 l0 x4_1).f2)) := (blk_cell BK114.out 2).trans rfl; have hfz12_0 := blk_frozen BK114.out 0; have hfz12_1 := blk_frozen BK114.out 1; have hfz12_2 := blk_frozen BK114.out 2) | ((with_reducible refine gate_builtin (b := .append) (xs := #[.tmp 17, .tmp 19]) rfl ?_); at_builtin; refine Kd.R_append_rows (Kd.int .i64) (w0 := w) w.heap.size rfl (.tmp 17) (.tmp 19) 27 3 (.int .i64 0) 8 rfl Try.underlying27 info3 rfl (by decide) (by omega) v116 y115 ((rd_T36 l0 x4_1).f1) _ _ _ (fun _ => True) (fun _ => False) rfl rfl ?aO ?aR (fun _ _ h => h) (fun _ h => h.elim) ?aF ?aB ?aS ?aL ?_; (case aR => repeat (first | exact (Kd.C_below HR113_1.out HB.out) | (with_reducible refine Kd.C_alloc ?_ _) | (with_reducible refine Kd.C_drewN ?_ _) | (with_reducible refine Kd.C_drew ?_))); (case aB => exact (by repeat (first | (with_reducible first | exact HB.out | apply below_alloc | apply pw_below_drewN | apply below_drew1 | refine below_set ?_ GE114.out) | exact HB.out))); (case aF => exact (fun _ _ => trivial)); (case aO => exact (by (with_reducible repeat (first | apply Kd.R_alloc | apply Kd.R_drewN | apply Kd.R_drew)); exact HO117.out)); (case aS => exact (below_size (by repeat (first | (with_reducible first | exact HB.out | apply below_alloc | apply pw_below_drewN | apply below_drew1 | refine below_set ?_ GE114.out) | exact HB.out)))); (case aL => have := LMc6.out; omega); intro v119 w13 ho hb hg hat; rw [← Ny118.out] at ho; have n0_ := Aside0.mk (Kd.S_after (ok := (fun k_ => k_ ≠ gb114)) (by (with_reducible repeat (first | apply Kd.S_alloc | apply Kd.S_drewN | apply Kd.S_drew)); exact Kd.S_mono HO_3.out (fun _ hk => ⟨hk.1.2, hk.2⟩)) hg hat); have n1_ := Aside0.mk (blk_grown (g := gb114) (o := .cells #[.string ((rd_T36 l0 x4_1).f0), .slice A113_1 ((rd_T36 l0 x4_1).f1).length c113_1, .int .i64 ((rd_T36 l0 x4_1).f2)] 36 (0, 0)) (by (with_reducible repeat (first | refine blk_drewN ?_ _ | refine blk_drew ?_ | refine blk_alloc ?_ _)); exact BK114.out) hg (Kd.R_ne HO117.out BK114.out (by decide))); have n2_ := Aside0.mk (hb); have n3_ := Aside0.mk (ho); clear HO_3; clear BK114; clear HB; clear HO117; have HO_3 := n0_; have BK114 := n1_; have HB := n2_; have HO120 := n3_; clear n0_ n1_ n2_ n3_; clear ho hb hg hat; obtain ⟨Ao14, co14, eo14⟩ := Kd.R_slice HO120.out; subst eo14; have hcz15_0 : w13.cell? ⟨gb114, 0, none⟩ = some (.string ((rd_T36 l0 x4_1).f0)) := (blk_cell BK114.out 0).trans rfl; have hcz15_1 : w13.cell? ⟨gb114, 1, none⟩ = some (.slice A113_1 ((rd_T36 l0 x4_1).f1).length c113_1) := (blk_cell BK114.out 1).trans rfl; have hcz15_2 : w13.cell? ⟨gb114, 2, none⟩ = some (.int .i64 ((rd_T36 l0 x4_1).f2)) := (blk_cell BK114.out 2).trans rfl; have hfz15_0 := blk_frozen BK114.out 0; have hfz15_1 := blk_frozen BK114.out 1; have hfz15_2 := blk_frozen BK114.out 2) | ((with_reducible refine gate_store (t := 27) (p := 21) rfl ?_); refine store_event (t := 27) (p := 21) (v := ?vo_w16) (w1 := (w13.setCell ⟨gb114, 1, none⟩ (.slice Ao14 y118.length co14))) ?hg ?ho ?hn ?hr ?_; (case ho => rfl); (case hg => rfl); (case hn => rfl); (case hr => first | (go_simp; done) | (go_simp; rfl)); intro w16 hw; have n0_ : Aside0 (Kd.S k36 36 w16 w.heap.size (fun k_ => some k_ ≠ (.slice Ao14 y118.length co14 : Value).ownBlock ∧ k_ ≠ gb114) u3 x3_1) := ⟨(by rw [hw]; exact (by (with_reducible repeat (first | apply Kd.S_alloc | apply Kd.S_drewN | apply Kd.S_drew)); exact Kd.S_mono (Kd.S_far (p := ⟨gb114, 1, none⟩) (Kd.S_mono HO_3.out (fun k_ hk => (⟨hk, hk.1⟩ : _ ∧ k_ ≠ gb114))) (fun _ hk => hk.2) (.slice Ao14 y118.length co14)) (fun _ hk => ⟨hk.1.2, hk.1.1⟩)))⟩; have n1_ : Aside0 (Kd.R (Kd.int .i64) 3 w16 w.heap.size (fun _ => True) (.slice Ao14 y118.length co14) y118) := ⟨(by rw [hw]; exact (by (with_reducible repeat (first | apply Kd.R_alloc | apply Kd.R_drewN | apply Kd.R_drew)); exact Kd.R_mono (Kd.R_far (p := ⟨gb114, 1, none⟩) (Kd.R_types HO120.out BK114.out (by decide)) (fun _ hk => hk.2) (.slice Ao14 y118.length co14)) (fun _ hk => trivial)))⟩; have n2_ : Aside0 (w16.heap[gb114]? = some (.cells #[.string ((rd_T36 l0 x4_1).f0), .slice Ao14 y118.length co14, .int .i64 ((rd_T36 l0 x4_1).f2)] 36 (0, 0))) := ⟨(by rw [hw]; exact (by (with_reducible repeat (first | refine blk_drewN ?_ _ | refine blk_drew ?_ | refine blk_alloc ?_ _)); refine blk_put (cs := #[.string ((rd_T36 l0 x4_1).f0), .slice A113_1 ((rd_T36 l0 x4_1).f1).length c113_1, .int .i64 ((rd_T36 l0 x4_1).f2)]) ?_ 1 _ rfl; (with_reducible repeat (first | refine blk_drewN ?_ _ | refine blk_drew ?_ | refine blk_alloc ?_ _)); exact BK114.out))⟩; have n3_ : Aside0 (Below w.heap.size w w16) := ⟨(by rw [hw]; exact (by repeat (first | (with_reducible first | exact HB.out | apply below_alloc | apply pw_below_drewN | apply below_drew1 | refine below_set ?_ GE114.out) | exact HB.out)))⟩; clear hw; clear HO_3; clear HO120; clear BK114; clear HB; have HO_3 := n0_; have HO120 := n1_; have BK114 := n2_; have HB := n3_; clear n0_ n1_ n2_ n3_; have hcz17_0 : w16.cell? ⟨gb114, 0, none⟩ = some (.string ((rd_T36 l0 x4_1).f0)) := (blk_cell BK114.out 0).trans rfl; have hcz17_1 : w16.cell? ⟨gb114, 1, none⟩ = some (.slice Ao14 y118.length co14) := (blk_cell BK114.out 1).trans rfl; have hcz17_2 : w16.cell? ⟨gb114, 2, none⟩ = some (.int .i64 ((rd_T36 l0 x4_1).f2)) := (blk_cell BK114.out 2).trans rfl; have hfz17_0 := blk_frozen BK114.out 0; have hfz17_1 := blk_frozen BK114.out 1; have hfz17_2 := blk_frozen BK114.out 2) | ((with_reducible refine gate_builtin (b := .append) (xs := #[.tmp 22, .tmp 24]) rfl ?_); at_builtin; refine Kd.S_append k36 (w0 := w) w.heap.size rfl (.tmp 22) (.tmp 24) 23 36 (.agg #[(.string ⟨#[]⟩), (.slice none 0 0), (.int .i64 0)]) 48 rfl Try.underlying23 info36 rfl (by decide) (by omega) u3 x3_1 (⟨(rd_T36 l0 x4_1).f0, y118, (rd_T36 l0 x4_1).f2⟩ : S36) [.string ((rd_T36 l0 x4_1).f0), .slice Ao14 y118.length co14, .int .i64 ((rd_T36 l0 x4_1).f2)] (fun k_ => k_ ≠ gb114) (fun k_ => some k_ = (.slice Ao14 y118.length co14 : Value).ownBlock) rfl rfl ?aP (fun k_ hk_ => ((Kd.R_mono (ok' := fun k_ => ((fun k_ => k_ ≠ gb114)) k_ ∧ some k_ ≠ (u3 : Value).ownBlock) (Kd.R_types (Kd.R_apart' (HO120.out) (Kd.S_typed HO_3.out) (by decide)) BK114.out (by decide)) (fun k_ hk => ⟨hk.2, hk.1.2⟩))).1 k_ hk_.symm) ?aF ?aO ?aB ?aS ?aL ?_; (case aP => exact k36_mkM _ _ _ (⟨(rd_T36 l0 x4_1).f0, y118, (rd_T36 l0 x4_1).f2⟩ : S36) (Kd.R_mono (Kd.R_tight rfl (Kd.R_mono (ok' := fun k_ => ((fun k_ => k_ ≠ gb114)) k_ ∧ some k_ ≠ (u3 : Value).ownBlock) (Kd.R_types (Kd.R_apart' (HO120.out) (Kd.S_typed HO_3.out) (by decide)) BK114.out (by decide)) (fun k_ hk => ⟨hk.2, hk.1.2⟩))) (fun _ h_ => h_))); (case aB => exact (by repeat (first | (with_reducible first | exact HB.out | apply below_alloc | apply pw_below_drewN | apply below_drew1 | refine below_set ?_ GE114.out) | exact HB.out))); (case aF => exact (fun k_ hk => Kd.freshB (g := gb114) (o := .cells #[.string ((rd_T36 l0 x4_1).f0), .slice Ao14 y118.length co14, .int .i64 ((rd_T36 l0 x4_1).f2)] 36 (0, 0)) (by (with_reducible repeat (first | refine blk_drewN ?_ _ | refine blk_drew ?_ | refine blk_alloc ?_ _)); exact BK114.out) k_ hk)); (case aO => exact (by (with_reducible repeat (first | apply Kd.S_alloc | apply Kd.S_drewN | apply Kd.S_drew)); exact Kd.S_mono HO_3.out (fun k_ hk => ⟨hk.2, fun e_ => hk.1 e_⟩))); (case aS => exact (below_size (by repeat (first | (with_reducible first | exact HB.out | apply below_alloc | apply pw_below_drewN | apply below_drew1 | refine below_set ?_ GE114.out) | exact HB.out)))); (case aL => have := LMc7.out; omega); intro v122 w18 ho hb hg hat; rw [← Ny121.out] at ho; have n0_ := Aside0.mk (blk_grown (g := gb114) (o := .cells #[.string ((rd_T36 l0 x4_1).f0), .slice Ao14 y118.length co14, .int .i64 ((rd_T36 l0 x4_1).f2)] 36 (0, 0)) (by (with_reducible repeat (first | refine blk_drewN ?_ _ | refine blk_drew ?_ | refine blk_alloc ?_ _)); exact BK114.out) hg (Kd.S_away HO_3.out (fun _ hk => hk.2))); have n1_ := Aside0.mk (hb); have n2_ := Aside0.mk (ho); clear BK114; clear HB; clear HO_3; clear HO120; have BK114 := n0_; have HB := n1_; have HO123 := n2_; clear n0_ n1_ n2_; clear ho hb hg hat))
              go_roundg k1
              case measure => have := HK1.out; omega
              case rel => exact ⟨(y121), (wrap64 (x4_1 + 1)), (by first | rfl | (simp; done) | (simp [*]; done)), H', ⟨by have := HK1.out; omega⟩, ⟨by (with_reducible repeat (first | apply Kd.S_alloc | apply Kd.S_drewN | apply Kd.S_drew)); exact Kd.S_mono HO123.out (fun _ hk => trivial)⟩, ⟨by repeat (first | (with_reducible first | exact HB.out | apply below_alloc | apply pw_below_drewN | apply below_drew1 | refine below_set ?_ GE114.out) | exact HB.out)⟩⟩
            · rw [if_neg c7] at H
              exact absurd H (by simp)
          · rw [if_neg c6] at H
            exact absurd H (by simp)
        · rw [if_neg c5] at H
          exact absurd H (by simp)
      · rw [if_neg c4] at H
        have c4b0 : decide (x4_1 < (l0.length : Int)) = false := decide_eq_false c4
        clear c4
        obtain rfl := Option.some.inj H
        go_wp2
        go_ret
        exact ⟨_, by first | rfl | (simp [errW_none, errW_some] <;> rfl) | (simp [*, errW_none, errW_some] <;> rfl), by (with_reducible repeat (first | apply Kd.S_alloc | apply Kd.S_drewN | apply Kd.S_drew)); exact HO_3.out, by repeat (first | (with_reducible first | exact HB.out | apply below_alloc | apply pw_below_drewN | apply below_drew1) | exact HB.out)⟩

end Go.Proofs.Ytcbomlmlindjdaa.Q
end
section
namespace Go.Proofs.Ytcbomlmlindjdaa.Q
open Go.RowKit Go.Proofs.YtcbomlmlindjdaaW.PrintWords Go.Proofs.YtcbomlmlindjdaaW.PrintLast Go.Proofs.YtcbomlmlindjdaaW.PrintMore
attribute [local go_sem] max2_int min2_int max_two min_two max_three min_three max_four min_four   -- for this text's walks alone
set_option linter.unusedVariables false
set_option linter.unusedSimpArgs false

def spec_l15Rd_of.f (k : Nat) (s0_0 : List Int) (s0_1 : Int) (l1 : List ByteArray) : Option (ByteArray × Int) := (spec_l15Rd_pick.f k s0_0 s0_1 (l1.length : Int)).bind fun bt187 => (if 0 ≤ bt187.1 then (if bt187.1 < (l1.length : Int) then (some (rdOf ByteArray.empty l1 bt187.1, bt187.2)) else (none)) else (none))
theorem spec_l15Rd_of.mono : ∀ a0 a1 a2 k, LeO (spec_l15Rd_of.f k a0 a1 a2) (spec_l15Rd_of.f (k + 1) a0 a1 a2) := by
  intro a0 a1 a2 k
  unfold spec_l15Rd_of.f
  repeat' first
      | (with_reducible exact spec_l15Rd_pick.mono _ _ _ _)
      | (with_reducible exact LeO.refl _)
      | (with_reducible exact LeO.none _)
      | (with_reducible refine LeO.ite ?_ ?_)
      | (with_reducible refine LeO.bind ?_ (fun _ => ?_))
      | exact spec_l15Rd_pick.mono _ _ _ _
      | exact LeO.none _
      | refine LeO.ite ?_ ?_
      | refine LeO.bind ?_ (fun _ => ?_)
set_option maxHeartbeats 8000000 in
set_option maxRecDepth 100000 in
theorem spec_l15Rd_of.calls (k : Nat) (g : Nat) (s0_0 : List Int) (s0_1 : Int) (A1 : Option Addr) (c1 : Nat) (l1 : List ByteArray) (r1 : ByteArray) (r2 : Int) (w0 w : World) (hI : IsS78 w0 w g s0_0 s0_1) (hB : Below w0.heap.size w0 w) (hr1 : Kd.C Kd.string w A1 l1.length l1) (hc1 : l1.length ≤ c1) (hf1 : ∀ ad, A1 = some ad → 0 < l1.length → ad.block ≠ g) (h : spec_l15Rd_of.f k s0_0 s0_1 l1 = some (r1, r2)) :
    Calls Try.prog 66 #[.pointer (some ⟨g, 0, none⟩), .slice A1 l1.length c1] w fun e w' => e = .returned (.string r1) ∧ IsS78 w0 w' g s0_0 r2 ∧ Below w0.heap.size w0 w' ∧ KeepBut w w' g none := by
  have HR1 := Aside0.mk hr1
  have HC1 := Aside0.mk hc1
  clear hr1 hc1
  have HI0 := Aside0.mk hI
  have HK := Aside0.mk (KeepBut.refl w g none)
  have HL := Aside0.mk hB.size
  clear hI
  have HW0 := Aside0.mk hB.size
  have HB := Aside0.mk hB
  clear hB
  have H : ((spec_l15Rd_pick.f k s0_0 s0_1 (l1.length : Int)).bind fun bt187 => (if 0 ≤ bt187.1 then (if bt187.1 < (l1.length : Int) then (some (rdOf ByteArray.empty l1 bt187.1, bt187.2)) else (none)) else (none))) = some (r1, r2) := h
  clear h
  replace H := Option.bind_eq_some_iff.mp H
  obtain ⟨⟨t187, t188⟩, A30, H⟩ := H
  replace H : (if 0 ≤ t187 then (if t187 < (l1.length : Int) then (some (rdOf ByteArray.empty l1 t187, t188)) else (none)) else (none)) = some (r1, r2) := H
  have A3 := Aside0.mk A30
  clear A30
  by_cases c4 : 0 ≤ t187
  · rw [if_pos c4] at H
    have c4b0 : decide (0 ≤ t187) = true := decide_eq_true c4
    clear c4
    by_cases c5 : t187 < (l1.length : Int)
    · rw [if_pos c5] at H
      have c5b0 : decide (t187 < (l1.length : Int)) = true := decide_eq_true c5
      clear c5
      simp only [Option.some.injEq, Prod.mk.injEq] at H
      obtain ⟨rfl, rfl⟩ := H
      go_enter Try.func66, Try.ntmps66
      go_wp2_with (first | ((with_reducible refine gate_callee (f := 67) rfl ?_); refine goesL_ (some 9) rfl rfl Try.func67 (by kernel_rfl) rfl #[.pointer (some ⟨g, 0, none⟩), .int .i64 (l1.length : Int)] rfl (by (try simp only [List.map_toArray, List.map_cons, List.map_nil]); first | done | rfl | (simp only [List.length_drop, List.length_take]; rfl)) ?_; (with_reducible refine (spec_l15Rd_pick.calls k g s0_0 s0_1 (l1.length : Int) t187 t188 w0 _ ?side1 ?side2 A3.out).mono ?_); (case side1 => repeat (first | (with_reducible first | exact HI0.out | apply IsS78.alloc | apply IsS78.drewN | apply IsS78.drew | apply IsS78.set_1) | exact HI0.out)); (case side2 => repeat (first | (with_reducible first | exact HB.out | apply below_alloc | apply pw_below_drewN | apply below_drew1 | refine below_set ?_ (IsS78.ge HI0.out)) | exact HB.out)); rintro e w6 ⟨rfl, hi, hb, hk⟩; refine ⟨_, rfl, ?_⟩; have n0_ := Aside0.mk (KeepBut.trans (by repeat (first | (with_reducible first | exact HK.out | apply KeepBut.set_ | apply keep_drewN | apply keep_drew | apply keep_alloc) | exact HK.out)) hk (.inl rfl)); have n1_ := Aside0.mk (hb); have n2_ := Aside0.mk (hi); clear HK; clear HB; clear HI0; have HK := n0_; have HB := n1_; have HI0 := n2_; clear n0_ n1_ n2_; (try clear hb); (try clear hb2); (try clear hk); (try clear hi); have p189 : 0 ≤ (t187 : Int) := of_decide_eq_true (by first | (with_reducible assumption) | assumption); have q189 : t187 < (l1.length : Int) := of_decide_eq_true (by first | (with_reducible assumption) | assumption); obtain ⟨ad189, e189, hx189_0⟩ := Kd.at_string HR1.out t187 p189 q189; cases e189; replace hx189_0 := keep_cell HK.out hx189_0 (by first | (rw [add_block]; exact hf1 _ rfl (by omega)) | exact hf1 _ rfl (by omega) | exact hf1 ad189 rfl (by omega)); replace p189 := eq_true p189; replace q189 := eq_true q189))
      go_ret
      exact ⟨by first | rfl | (simp [errW_none, errW_some] <;> rfl) | (simp [*, errW_none, errW_some] <;> rfl), by repeat (first | (with_reducible first | exact HI0.out | apply IsS78.alloc | apply IsS78.drewN | apply IsS78.drew | apply IsS78.set_1) | exact HI0.out), by repeat (first | (with_reducible first | exact HB.out | apply below_alloc | apply pw_below_drewN | apply below_drew1 | refine below_set ?_ (IsS78.ge HI0.out)) | exact HB.out), by repeat (first | (with_reducible first | exact HK.out | apply KeepBut.set_ | apply keep_drewN | apply keep_drew | apply keep_alloc) | exact HK.out)⟩
    · rw [if_neg c5] at H
      exact absurd H (by simp)
  · rw [if_neg c4] at H
    exact absurd H (by simp)

end Go.Proofs.Ytcbomlmlindjdaa.Q
end
section
namespace Go.Proofs.Ytcbomlmlindjdaa.Q
open Go.RowKit Go.Proofs.YtcbomlmlindjdaaW.PrintWords Go.Proofs.YtcbomlmlindjdaaW.PrintLast Go.Proofs.YtcbomlmlindjdaaW.PrintMore
attribute [local go_sem] max2_int min2_int max_two min_two max_three min_three max_four min_four   -- for this text's walks alone
set_option linter.unusedVariables false
set_option linter.unusedSimpArgs false

end Go.Proofs.Ytcbomlmlindjdaa.Q
end
