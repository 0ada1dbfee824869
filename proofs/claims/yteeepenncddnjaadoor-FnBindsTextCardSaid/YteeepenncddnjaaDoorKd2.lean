/- Words for the laws' proofs (part 2): contracts of functions, and plain lemmas. -/
import Derived.Deep.RegionHeld3
import Derived.Ground.Names2Prog
import Derived.IntWalk
import Derived.Laws.BitsLemmas
import Derived.Laws.IdiomStrings
import Derived.Lib.Bytealg
import Derived.Lib.ItoaNum
import Derived.Lib.Join
import Derived.Lib.LazyBuf
import Derived.Lib.SliceRun
import Derived.Lib.Strings
import Derived.Shelf.Abstract
import Derived.Shelf.Slices.Empties
import Derived.Shelf.Slices.SearchI
import Derived.Shelf.Spec.SlicesInsertGrow
import Derived.Test.YteeepenncddnjaaDoorKd1
section
namespace Go.Proofs.YteeepenncddnjaaDoor
open Go.RowKit Go.Proofs.YteeepenncddnjaaDoorW.PrintWords Go.Proofs.YteeepenncddnjaaDoorW.PrintLast Go.Proofs.YteeepenncddnjaaDoorW.PrintMore
set_option linter.unusedVariables false
set_option linter.unusedSimpArgs false
noncomputable def pB (p : Prop) : Bool := @decide p (Classical.propDecidable _)
theorem pB_iff {p : Prop} : pB p = true ↔ p := by unfold pB; exact @decide_eq_true_iff _ (Classical.propDecidable _)
theorem pB_yes {p : Prop} (h : p) : true = pB p := (pB_iff.2 h).symm
theorem pB_no {p : Prop} (h : ¬ p) : false = pB p := by
  cases e : pB p with
  | true => exact absurd (pB_iff.1 e) h
  | false => rfl
def ScAt (xs : List Int) (i : Nat) : Prop := ∀ h : i < xs.length, 1 ≤ xs[i] ∧ xs[i] ≤ 99 ∧ ∀ (j : Nat) (hj : j < xs.length), j + 1 = i → xs[j] < xs[i]
def ScOk (xs : List Int) : Prop := xs.length ≤ 24 ∧ ∀ i, ScAt xs i
set_option maxHeartbeats 2000000 in
theorem l1Scopes_any (xs : List Int) (A : Option Addr) (c : Nat) (w : World) (hr : kI.C w A xs.length xs) (hc : xs.length ≤ c) :
    Calls Tryd.prog 51 #[.slice A xs.length c] w (Ret w (.bool (pB (ScOk xs)))) := by
  have hmax := hr.2.1
  go_enter Tryd.func51, Tryd.ntmps51
  go_wp2_with fail
  go_loopg [3] xs.length (fun kq v3 w' => ∃ i : Nat, i ≤ xs.length ∧ xs.length - i ≤ kq ∧ v3 = .int .i64 i ∧ Aside0 (i ≤ 25) ∧ Aside0 (∀ j, j < i → ScAt xs j) ∧ Aside0 (Below w.heap.size w w'))
  case atStart => exact ⟨0, Nat.zero_le _, by omega, rfl, ⟨by omega⟩, ⟨fun j h => absurd h (by omega)⟩, ⟨Below.refl _ _⟩⟩
  case round =>
    obtain ⟨i, hi, hg, rfl, H25, HN, HW⟩ := hrel
    by_cases hlt : i < xs.length
    · have t1 : decide ((i : Int) < (xs.length : Int)) = true := decide_eq_true (by omega)
      by_cases h24 : i ≤ 24
      · have t2 : decide ((i : Int) ≤ 24) = true := decide_eq_true (by omega)
        obtain ⟨ad, e, hcell⟩ := int_at (Kd.C_below hr HW.out) i hlt
        subst e
        have p1 : (0 : Int) ≤ (i : Int) := by omega
        have p2 : (i : Int) < (xs.length : Int) := by omega
        by_cases ha : xs[i] < 1
        · have a1 : decide (xs[i] < 1) = true := decide_eq_true ha
          have HA := Lib.hid ha
          clear ha
          go_wp2_with fail
          go_quiet (fail)
          go_wp2_with fail
          go_ret
          refine ⟨ret_b (pB_no (fun h => ?_)), pw_below_drewN HW.out _⟩
          have := (h.2 i hlt).1
          have := HA.out
          omega
        · have a1 : decide (xs[i] < 1) = false := decide_eq_false ha
          have HA := Lib.hid ha
          clear ha
          by_cases hb : xs[i] > 99
          · have a2 : decide (xs[i] > 99) = true := decide_eq_true hb
            have a3 : decide (99 < xs[i]) = true := decide_eq_true hb
            have HB := Lib.hid hb
            clear hb
            go_wp2_with fail
            go_quiet (fail)
            go_wp2_with fail
            go_ret
            refine ⟨ret_b (pB_no (fun h => ?_)), pw_below_drewN HW.out _⟩
            have := (h.2 i hlt).2.1
            have := HB.out
            omega
          · have a2 : decide (xs[i] > 99) = false := decide_eq_false hb
            have a3 : decide (99 < xs[i]) = false := decide_eq_false hb
            have HB := Lib.hid hb
            clear hb
            by_cases hz : i = 0
            · have z1 : decide ((i : Int) > 0) = false := decide_eq_false (by omega)
              have z2 : decide ((0 : Int) < (i : Int)) = false := decide_eq_false (by omega)
              have z3 : decide (0 < i) = false := decide_eq_false (by omega)
              have HZ := Lib.hid hz
              clear hz
              go_wp2_with fail
              go_quiet (fail)
              go_wp2_with fail
              go_roundg (xs.length - (i + 1))
              case measure => omega
              case rel =>
                refine ⟨i + 1, by omega, Nat.le_refl _, by go_num, ⟨by omega⟩, ⟨fun j hj => ?_⟩, ⟨pw_below_drewN HW.out _⟩⟩
                have h1 := HA.out
                have h2 := HB.out
                have h3 := HZ.out
                obtain rfl : j = i := by omega
                exact fun _ => ⟨by omega, by omega, fun j hj he => absurd he (by omega)⟩
            · obtain ⟨j, hji⟩ : ∃ j, i = j + 1 := ⟨i - 1, by omega⟩
              have hj : j < xs.length := by omega
              obtain ⟨ad3, e3, hcell3⟩ := int_at (Kd.C_below hr HW.out) j hj
              obtain rfl : ad = ad3 := by cases e3; rfl
              have z1 : decide ((i : Int) > 0) = true := decide_eq_true (by omega)
              have z2 : decide ((0 : Int) < (i : Int)) = true := decide_eq_true (by omega)
              have z3 : decide (0 < i) = true := decide_eq_true (by omega)
              have u1 : IntKind.i64.wrap ((i : Int) - 1) = (j : Int) := by rw [show ((i : Int) - 1) = (j : Int) from by omega]; exact IntWalk.i64_in _ (by omega)
              have u2 : (0 : Int) ≤ (j : Int) := by omega
              have u3 : (j : Int) < (xs.length : Int) := by omega
              have HJ := Lib.hid hji
              by_cases hle : xs[i] ≤ xs[j]
              · have c1 : decide (xs[i] ≤ xs[j]) = true := decide_eq_true hle
                have HL := Lib.hid hle
                clear hle hz hji
                go_wp2_with fail
                go_quiet (fail)
                go_wp2_with fail
                go_ret
                refine ⟨ret_b (pB_no (fun h => ?_)), pw_below_drewN HW.out _⟩
                have := (h.2 i hlt).2.2 j hj HJ.out.symm
                have := HL.out
                omega
              · have c1 : decide (xs[i] ≤ xs[j]) = false := decide_eq_false hle
                have HL := Lib.hid hle
                clear hle hz hji
                go_wp2_with fail
                go_quiet (fail)
                go_wp2_with fail
                go_roundg (xs.length - (i + 1))
                case measure => omega
                case rel =>
                  refine ⟨i + 1, by omega, Nat.le_refl _, by go_num, ⟨by omega⟩, ⟨fun q hq => ?_⟩, ⟨pw_below_drewN HW.out _⟩⟩
                  rcases Nat.lt_or_ge q i with h | h
                  · exact HN.out q h
                  · obtain rfl : q = i := by omega
                    have h1 := HA.out
                    have h2 := HB.out
                    have h3 := HL.out
                    have h4 := HJ.out
                    refine fun _ => ⟨by omega, by omega, fun p hp he => ?_⟩
                    obtain rfl : p = j := by omega
                    omega
      · have t2 : decide ((i : Int) ≤ 24) = false := decide_eq_false (by omega)
        have t3 : decide ((xs.length : Int) ≤ 24) = false := decide_eq_false (by omega)
        go_wp2_with fail
        go_ret
        refine ⟨ret_b (pB_no (fun h => ?_)), HW.out⟩
        have := h.1
        omega
    · obtain rfl : i = xs.length := by omega
      have t1 : decide ((xs.length : Int) < (xs.length : Int)) = false := decide_eq_false (by omega)
      by_cases h24 : xs.length ≤ 24
      · have t3 : decide ((xs.length : Int) ≤ 24) = true := decide_eq_true (by omega)
        go_wp2_with fail
        go_ret
        exact ⟨ret_b (pB_yes ⟨h24, fun i h => HN.out i h h⟩), HW.out⟩
      · have t3 : decide ((xs.length : Int) ≤ 24) = false := decide_eq_false (by omega)
        go_wp2_with fail
        go_ret
        exact ⟨ret_b (pB_no (fun h => h24 h.1)), HW.out⟩
set_option maxHeartbeats 2000000 in
theorem scopesOk_any (xs : List Int) (A : Option Addr) (c : Nat) (w : World) (hr : kI.C w A xs.length xs) (hc : xs.length ≤ c) :
    Calls Tryd.prog 45 #[.slice A xs.length c] w (Ret w (.bool (pB (ScOk xs)))) := by
  have hmax := hr.2.1
  go_enter Tryd.func45, Tryd.ntmps45
  go_wp2_with fail
  go_loopg [3, 4, 7] xs.length (fun kq v3 v4 v7 w' => ∃ i : Nat, i ≤ xs.length ∧ xs.length - i ≤ kq ∧ v7 = .int .i64 i ∧ Aside0 (∀ j, j < i → ScAt xs j) ∧ Aside0 (Below w.heap.size w w'))
  case atStart => exact ⟨0, Nat.zero_le _, by omega, rfl, ⟨fun j h => absurd h (by omega)⟩, ⟨Below.refl _ _⟩⟩
  case round =>
    obtain ⟨i, hi, hg, rfl, HN, HW⟩ := hrel
    by_cases hlt : i < xs.length
    · obtain ⟨ad, e, hcell⟩ := int_at (Kd.C_below hr HW.out) i hlt
      subst e
      have HC := Lib.hid (within_any xs[i] 1 99 wr)
      go_wp2_with fail
      refine HC.out.mono ?_
      rintro e w1 ⟨rfl, hb1⟩
      have hW1 := below_step HW.out hb1
      by_cases ha : 1 ≤ xs[i] ∧ xs[i] ≤ 99
      · rw [decide_eq_true ha]
        have HA := Lib.hid ha
        clear ha
        by_cases hz : i = 0
        · have z1 : decide ((i : Int) > 0) = false := decide_eq_false (by omega)
          have z2 : decide ((0 : Int) < (i : Int)) = false := decide_eq_false (by omega)
          have z3 : decide (0 < i) = false := decide_eq_false (by omega)
          have HZ := Lib.hid hz
          have HW1 := Lib.hid hW1
          clear hz hW1 hb1
          go_wp2_with fail
          go_roundg (xs.length - (i + 1))
          case measure => omega
          case rel =>
            refine ⟨i + 1, by omega, Nat.le_refl _, by go_num, ⟨fun q hq => ?_⟩, ⟨HW1.out⟩⟩
            have h1 := HA.out
            have h3 := HZ.out
            obtain rfl : q = i := by omega
            exact fun _ => ⟨h1.1, h1.2, fun j hj he => absurd he (by omega)⟩
        · obtain ⟨j, hji⟩ : ∃ j, i = j + 1 := ⟨i - 1, by omega⟩
          have hj : j < xs.length := by omega
          obtain ⟨ad3, e3, hcell3⟩ := int_at (Kd.C_below hr hW1) j hj
          obtain rfl : ad = ad3 := by cases e3; rfl
          have z1 : decide ((i : Int) > 0) = true := decide_eq_true (by omega)
          have z2 : decide ((0 : Int) < (i : Int)) = true := decide_eq_true (by omega)
          have z3 : decide (0 < i) = true := decide_eq_true (by omega)
          have u1 : IntKind.i64.wrap ((i : Int) - 1) = (j : Int) := by rw [show ((i : Int) - 1) = (j : Int) from by omega]; exact IntWalk.i64_in _ (by omega)
          have u2 : (0 : Int) ≤ (j : Int) := by omega
          have u3 : (j : Int) < (xs.length : Int) := by omega
          have u4 : (i : Int) - 1 = (j : Int) := by omega
          have HJ := Lib.hid hji
          have HW1 := Lib.hid hW1
          by_cases hle : xs[i] ≤ xs[j]
          · have c1 : decide (xs[j] ≥ xs[i]) = true := decide_eq_true hle
            have c2 : decide (xs[i] ≤ xs[j]) = true := decide_eq_true hle
            have HL := Lib.hid hle
            clear hle hz hji hW1 hb1
            go_wp2_with fail
            go_ret
            refine ⟨ret_b (pB_no (fun h => ?_)), HW1.out⟩
            have := (h.2 i hlt).2.2 j hj HJ.out.symm
            have := HL.out
            omega
          · have c1 : decide (xs[j] ≥ xs[i]) = false := decide_eq_false hle
            have c2 : decide (xs[i] ≤ xs[j]) = false := decide_eq_false hle
            have HL := Lib.hid hle
            clear hle hz hji hW1 hb1
            go_wp2_with fail
            go_roundg (xs.length - (i + 1))
            case measure => omega
            case rel =>
              refine ⟨i + 1, by omega, Nat.le_refl _, by go_num, ⟨fun q hq => ?_⟩, ⟨HW1.out⟩⟩
              rcases Nat.lt_or_ge q i with h | h
              · exact HN.out q h
              · obtain rfl : q = i := by omega
                have h1 := HA.out
                have h3 := HL.out
                have h4 := HJ.out
                refine fun _ => ⟨h1.1, h1.2, fun p hp he => ?_⟩
                obtain rfl : p = j := by omega
                omega
      · rw [decide_eq_false ha]
        have HA := Lib.hid ha
        have HW1 := Lib.hid hW1
        clear ha hW1 hb1
        go_wp2_with fail
        go_ret
        exact ⟨ret_b (pB_no (fun h => HA.out ⟨(h.2 i hlt).1, (h.2 i hlt).2.1⟩)), HW1.out⟩
    · obtain rfl : i = xs.length := by omega
      by_cases h24 : xs.length ≤ 24
      · have t3 : decide ((xs.length : Int) ≤ 24) = true := decide_eq_true (by omega)
        go_wp2_with fail
        go_ret
        exact ⟨ret_b (pB_yes ⟨h24, fun i h => HN.out i h h⟩), HW.out⟩
      · have t3 : decide ((xs.length : Int) ≤ 24) = false := decide_eq_false (by omega)
        go_wp2_with fail
        go_ret
        exact ⟨ret_b (pB_no (fun h => h24 h.1)), HW.out⟩
end Go.Proofs.YteeepenncddnjaaDoor
end
section
namespace Go.Proofs.YteeepenncddnjaaDoor
open Go.RowKit Go.Proofs.YteeepenncddnjaaDoorW.PrintWords Go.Proofs.YteeepenncddnjaaDoorW.PrintLast Go.Proofs.YteeepenncddnjaaDoorW.PrintMore
set_option linter.unusedVariables false
set_option linter.unusedSimpArgs false
set_option maxRecDepth 100000

def letterB (c : Int) : Bool := (decide (97 ≤ c) && decide (c ≤ 122)) || c == 42 || c == 63 || c == 61 || c == 43 || c == 60
def digitB (c : Int) : Bool := (decide (48 ≤ c) && decide (c ≤ 57)) || c == 45
theorem l1Letter_any (c : Int) (first : Bool) (w : World) (h0 : 0 ≤ c) (h1 : c < 256) : Calls Tryd.prog 74 #[.int .u8 c, .bool first] w (Ret w (.bool (letterB c || (!first && digitB c)))) := by
  go_enter Tryd.func74, Tryd.ntmps74
  go_wp2
  all_goals
    go_ret
    refine ⟨ret_b ?_, Below.refl _ _⟩
    first
    | rfl
    | (rw [Bool.eq_iff_iff]; simp_all [letterB, digitB]; done)
    | (rw [Bool.eq_iff_iff]; simp_all [letterB, digitB]; omega)
    | (cases first <;> rw [Bool.eq_iff_iff] <;> simp_all [letterB, digitB] <;> omega)
/-- What a valid name is. -/
def NmOk (s : ByteArray) : Prop := s.toList = [46, 46, 46] ∨ s.toList = [95] ∨ (1 ≤ s.size ∧ s.size ≤ 12 ∧ ∀ i (h : i < s.size), (letterB s[i].toNat || (!((i : Int) == 0) && digitB s[i].toNat)) = true)
noncomputable def nmB (s : ByteArray) : Bool := @decide (NmOk s) (Classical.propDecidable _)
theorem nmB_iff (s : ByteArray) : nmB s = true ↔ NmOk s := by unfold nmB; exact @decide_eq_true_iff _ (Classical.propDecidable _)
theorem nmB_t {s : ByteArray} (h : NmOk s) : true = nmB s := ((nmB_iff s).2 h).symm
theorem nmB_f {s : ByteArray} (h : ¬ NmOk s) : false = nmB s := by
  cases hb : nmB s with
  | true => exact absurd ((nmB_iff s).1 hb) h
  | false => rfl
theorem byte_lt (s : ByteArray) (i : Nat) (h : i < s.size) : 0 ≤ (s[i].toNat : Int) ∧ (s[i].toNat : Int) < 256 := ⟨by omega, by have := s[i].toNat_lt; omega⟩

set_option maxHeartbeats 2000000 in
theorem specName_any (s : ByteArray) (w : World) (hs : s.size ≤ 140737488351232) : Calls Tryd.prog 50 #[.string s] w (Ret w (.bool (nmB s))) := by
  by_cases h1 : s.toList = [46, 46, 46]
  · have h1' : (s.toList == [46, 46, 46]) = true := by rw [h1]; rfl
    have H := Lib.hid (nmB_t (s := s) (.inl h1))
    clear h1
    go_enter Tryd.func50, Tryd.ntmps50
    go_wp2_with fail
    go_ret
    exact ⟨ret_b H.out, Below.refl _ _⟩
  by_cases h2 : s.toList = [95]
  · have h1' : (s.toList == [46, 46, 46]) = false := by simpa using h1
    have h2' : (s.toList == [95]) = true := by rw [h2]; rfl
    have H := Lib.hid (nmB_t (s := s) (.inr (.inl h2)))
    clear h1 h2
    go_enter Tryd.func50, Tryd.ntmps50
    go_wp2_with fail
    go_ret
    exact ⟨ret_b H.out, Below.refl _ _⟩
  have h1' : (s.toList == [46, 46, 46]) = false := by simpa using h1
  have h2' : (s.toList == [95]) = false := by simpa using h2
  have H1 := Lib.hid h1
  have H2 := Lib.hid h2
  clear h1 h2
  go_enter Tryd.func50, Tryd.ntmps50
  go_wp2_with fail
  go_loopg [3] s.size (fun kq v3 w' => ∃ i : Nat, i ≤ s.size ∧ s.size - i ≤ kq ∧ v3 = .int .i64 i ∧ Aside0 (∀ j (h : j < s.size), j < i → (letterB s[j].toNat || (!((j : Int) == 0) && digitB s[j].toNat)) = true) ∧ Aside0 (Below w.heap.size w w'))
  case atStart => exact ⟨0, Nat.zero_le _, by omega, rfl, ⟨fun j _ h => absurd h (by omega)⟩, ⟨Below.refl _ _⟩⟩
  case round =>
    obtain ⟨i, hi, hg, rfl, HN, HW⟩ := hrel
    by_cases hlt : i < s.size
    · by_cases h12 : i ≤ 12
      · have hd : decide ((i : Int) ≤ 12) = true := decide_eq_true (by omega)
        have hd1 : decide ((i : Int) < (s.size : Int)) = true := decide_eq_true (by omega)
        have HC := Lib.hid (l1Letter_any (s[i].toNat : Int) ((i : Int) == 0) wr (byte_lt s i hlt).1 (byte_lt s i hlt).2)
        go_wp2_with fail
        refine HC.out.mono ?_
        rintro e w1 ⟨rfl, hb1⟩
        cases hb : (letterB s[i].toNat || (!((i : Int) == 0) && digitB s[i].toNat)) with
        | true =>
          have HB := Lib.hid hb
          clear hb
          go_wp2_with fail
          go_roundg (s.size - (i + 1))
          case measure => omega
          case rel =>
            refine ⟨i + 1, by omega, Nat.le_refl _, by go_num, ⟨fun j hj hji => ?_⟩, ⟨below_step HW.out hb1⟩⟩
            rcases Nat.lt_or_ge j i with h | h
            · exact HN.out j hj h
            · obtain rfl : j = i := by omega
              exact HB.out
        | false =>
          have HB := Lib.hid hb
          clear hb
          go_wp2_with fail
          go_ret
          refine ⟨ret_b (nmB_f ?_), below_step HW.out hb1⟩
          rintro (h | h | ⟨_, _, h⟩)
          · exact H1.out h
          · exact H2.out h
          · have := h i hlt
            rw [HB.out] at this
            cases this
      · have hd : decide ((i : Int) ≤ 12) = false := decide_eq_false (by omega)
        have hd1 : decide ((i : Int) < (s.size : Int)) = true := decide_eq_true (by omega)
        have hd2 : decide (1 ≤ (s.size : Int)) = true := decide_eq_true (by omega)
        have hd3 : decide ((s.size : Int) ≤ 12) = false := decide_eq_false (by omega)
        have HL := Lib.hid (show 12 < s.size by omega)
        go_wp2_with fail
        go_ret
        refine ⟨ret_b (nmB_f ?_), HW.out⟩
        rintro (h | h | ⟨_, h, _⟩)
        · exact H1.out h
        · exact H2.out h
        · have := HL.out
          omega
    · obtain rfl : i = s.size := by omega
      by_cases g1 : 1 ≤ s.size
      · have hd2 : decide (1 ≤ (s.size : Int)) = true := decide_eq_true (by omega)
        by_cases g2 : s.size ≤ 12
        · have hd3 : decide ((s.size : Int) ≤ 12) = true := decide_eq_true (by omega)
          have H := Lib.hid (nmB_t (s := s) (.inr (.inr ⟨g1, g2, fun i h => HN.out i h h⟩)))
          go_wp2_with fail
          go_ret
          exact ⟨ret_b H.out, HW.out⟩
        · have hd3 : decide ((s.size : Int) ≤ 12) = false := decide_eq_false (by omega)
          have H := Lib.hid (nmB_f (s := s) (by
            rintro (h | h | ⟨_, h, _⟩)
            · exact H1.out h
            · exact H2.out h
            · omega))
          go_wp2_with fail
          go_ret
          exact ⟨ret_b H.out, HW.out⟩
      · have hd2 : decide (1 ≤ (s.size : Int)) = false := decide_eq_false (by omega)
        have H := Lib.hid (nmB_f (s := s) (by
            rintro (h | h | ⟨h, _, _⟩)
            · exact H1.out h
            · exact H2.out h
            · omega))
        go_wp2_with fail
        go_ret
        exact ⟨ret_b H.out, HW.out⟩
theorem bytealgIndex_any (s : ByteArray) (c : Int) (w : World) : Calls Tryd.prog 81 #[.string s, .int .u8 c] w fun e w' => e = .returned (.int .i64 (Lib.indexByte s.data.toList c.toNat.toUInt8)) ∧ w' = w := by
  go_enter Tryd.func81, Tryd.ntmps81
  go_wp2
  rw [run_callFunc_extern Tryd.func89 (by kernel_rfl) (by kernel_rfl) (by kernel_rfl) (e := Extern.BytealgIndexByte.indexByte) (by kernel_rfl), Lib.run_indexByteString]
  simp only [Result.andThen]
  rw [Oper.upon_value]
  go_wp2
  go_ret
  exact ⟨rfl, rfl⟩
theorem indexByte_any (s : ByteArray) (c : Int) (w : World) : Calls Tryd.prog 72 #[.string s, .int .u8 c] w fun e w' => e = .returned (.int .i64 (Lib.indexByte s.data.toList c.toNat.toUInt8)) ∧ w' = w := by
  go_enter Tryd.func72, Tryd.ntmps72
  go_wp2_with fail
  refine (bytealgIndex_any s c w).mono ?_
  rintro e w1 ⟨rfl, rfl⟩
  go_wp2_with fail
  go_ret
  exact ⟨rfl, rfl⟩
theorem signs_tab : ∀ n : Fin 256, decide (0 ≤ Lib.indexByte [42, 63, 61, 43, 60] (n : Nat).toUInt8) = (decide ((n : Nat) = 42) || decide ((n : Nat) = 63) || decide ((n : Nat) = 61) || decide ((n : Nat) = 43) || decide ((n : Nat) = 60)) := by decide +kernel
theorem signs (c : Int) (h0 : 0 ≤ c) (h1 : c < 256) : decide (0 ≤ Lib.indexByte [42, 63, 61, 43, 60] c.toNat.toUInt8) = (c == 42 || c == 63 || c == 61 || c == 43 || c == 60) := by
  have h := signs_tab ⟨c.toNat, by omega⟩
  simp only at h
  rw [h, Bool.eq_iff_iff]
  simp
  omega
set_option maxHeartbeats 4000000 in
theorem implName_any (s : ByteArray) (w : World) (hs : s.size ≤ 140737488351232) : Calls Tryd.prog 44 #[.string s] w (Ret w (.bool (nmB s))) := by
  by_cases h1 : s.toList = [46, 46, 46]
  · have h1' : (s.toList == [46, 46, 46]) = true := by rw [h1]; rfl
    have H := Lib.hid (nmB_t (s := s) (.inl h1))
    clear h1
    go_enter Tryd.func44, Tryd.ntmps44
    go_wp2_with fail
    go_ret
    exact ⟨ret_b H.out, Below.refl _ _⟩
  by_cases h2 : s.toList = [95]
  · have h1' : (s.toList == [46, 46, 46]) = false := by simpa using h1
    have h2' : (s.toList == [95]) = true := by rw [h2]; rfl
    have H := Lib.hid (nmB_t (s := s) (.inr (.inl h2)))
    clear h1 h2
    go_enter Tryd.func44, Tryd.ntmps44
    go_wp2_with fail
    go_ret
    exact ⟨ret_b H.out, Below.refl _ _⟩
  have h1' : (s.toList == [46, 46, 46]) = false := by simpa using h1
  have h2' : (s.toList == [95]) = false := by simpa using h2
  have H1 := Lib.hid h1
  have H2 := Lib.hid h2
  clear h1 h2
  go_enter Tryd.func44, Tryd.ntmps44
  go_wp2_with fail
  go_loopg [3, 4] s.size (fun kq v3 v4 w' => ∃ i : Nat, i ≤ s.size ∧ s.size - i ≤ kq ∧ v3 = .int .i64 i ∧ Aside0 (∀ j (h : j < s.size), j < i → (letterB s[j].toNat || (!((j : Int) == 0) && digitB s[j].toNat)) = true) ∧ Aside0 (Below w.heap.size w w'))
  case atStart => exact ⟨0, Nat.zero_le _, by omega, rfl, ⟨fun j _ h => absurd h (by omega)⟩, ⟨Below.refl _ _⟩⟩
  case round =>
    obtain ⟨i, hi, hg, rfl, HN, HW⟩ := hrel
    by_cases hlt : i < s.size
    · have hd1 : decide ((i : Int) < (s.size : Int)) = true := decide_eq_true (by omega)
      obtain ⟨hc0, hc1⟩ := byte_lt s i hlt
      have HS := Lib.hid (signs (s[i].toNat : Int) hc0 hc1)
      have HK : Hid ((letterB s[i].toNat || (!((i : Int) == 0) && digitB s[i].toNat)) = true → ∀ j (h : j < s.size), j < i + 1 → (letterB s[j].toNat || (!((j : Int) == 0) && digitB s[j].toNat)) = true) := Lib.hid (fun hb j hj hji => by
        rcases Nat.lt_or_ge j i with h | h
        · exact HN.out j hj h
        · obtain rfl : j = i := by omega
          exact hb)
      have HF : Hid ((letterB s[i].toNat || (!((i : Int) == 0) && digitB s[i].toNat)) = false → false = nmB s) := Lib.hid (fun hb => nmB_f (by
          rintro (h | h | ⟨_, _, h⟩)
          · exact H1.out h
          · exact H2.out h
          · have := h i hlt
            rw [hb] at this
            cases this))
      clear HN
      have hI : ∀ W, Calls Tryd.prog 72 #[.string ⟨#[42, 63, 61, 43, 60]⟩, .int .u8 (s[i].toNat : Int)] W (fun e w' => e = .returned (.int .i64 (Lib.indexByte [42, 63, 61, 43, 60] (s[i].toNat : Int).toNat.toUInt8)) ∧ w' = W) := fun W => indexByte_any _ _ W
      have HI := Lib.hid hI
      clear hI
      generalize Lib.indexByte [42, 63, 61, 43, 60] (s[i].toNat : Int).toNat.toUInt8 = r at HI HS
      by_cases hA : 97 ≤ (s[i].toNat : Int) ∧ (s[i].toNat : Int) ≤ 122
      · obtain ⟨a1, a2⟩ := hA
        have HG := Lib.hid (show (letterB (s[i].toNat : Int) || (!((i : Int) == 0) && digitB (s[i].toNat : Int))) = true by simp [letterB, a1, a2])
        have a1' := decide_eq_true a1
        have a2' := decide_eq_true a2
        go_wp2_with fail
        go_roundg (s.size - (i + 1))
        case measure => omega
        case rel => exact ⟨i + 1, by omega, Nat.le_refl _, by go_num, ⟨HK.out HG.out⟩, ⟨HW.out⟩⟩
      · have hA' : (decide (97 ≤ (s[i].toNat : Int)) && decide ((s[i].toNat : Int) ≤ 122)) = false := by rw [Bool.eq_false_iff]; simp; omega
        have HA := Lib.hid hA'
        clear hA'
        by_cases a1 : 97 ≤ (s[i].toNat : Int)
        · have a2 : 122 < (s[i].toNat : Int) := by omega
          clear hA
          have a1' := decide_eq_true a1
          have a2' : decide ((s[i].toNat : Int) ≤ 122) = false := decide_eq_false (by omega)
          go_wp2_with fail
          refine (HI.out wr).mono ?_
          rintro e w1 ⟨rfl, rfl⟩
          by_cases hr : 0 ≤ r
          · have HG := Lib.hid (show (letterB (s[i].toNat : Int) || (!((i : Int) == 0) && digitB (s[i].toNat : Int))) = true by
              have := HS.out; rw [decide_eq_true hr] at this; unfold letterB; rw [HA.out]; simp at this ⊢; left; omega)
            have hr' := decide_eq_true hr
            go_wp2_with fail
            go_roundg (s.size - (i + 1))
            case measure => omega
            case rel => exact ⟨i + 1, by omega, Nat.le_refl _, by go_num, ⟨HK.out HG.out⟩, ⟨HW.out⟩⟩
          · have hr' : decide (0 ≤ r) = false := decide_eq_false hr
            have HG := Lib.hid (show (letterB (s[i].toNat : Int) || (!((i : Int) == 0) && digitB (s[i].toNat : Int))) = false by
              have := HS.out; rw [decide_eq_false hr] at this; unfold letterB digitB; rw [HA.out]; simp at this ⊢; omega)
            have e45 : ((s[i].toNat : Int) == 45) = false := by simp; omega
            have e48 : decide (48 ≤ (s[i].toNat : Int)) = true := decide_eq_true (by omega)
            have e57 : decide ((s[i].toNat : Int) ≤ 57) = false := decide_eq_false (by omega)
            by_cases i0 : 0 < i
            · have i0' : decide ((0 : Int) < (i : Int)) = true := decide_eq_true (by omega)
              go_wp2_with fail
              go_ret
              exact ⟨ret_b (HF.out HG.out), HW.out⟩
            · have i0' : decide ((0 : Int) < (i : Int)) = false := decide_eq_false (by omega)
              go_wp2_with fail
              go_ret
              exact ⟨ret_b (HF.out HG.out), HW.out⟩
        · have a1' : decide (97 ≤ (s[i].toNat : Int)) = false := decide_eq_false a1
          clear hA
          go_wp2_with fail
          refine (HI.out wr).mono ?_
          rintro e w1 ⟨rfl, rfl⟩
          by_cases hr : 0 ≤ r
          · have HG := Lib.hid (show (letterB (s[i].toNat : Int) || (!((i : Int) == 0) && digitB (s[i].toNat : Int))) = true by
              have := HS.out; rw [decide_eq_true hr] at this; unfold letterB; rw [HA.out]; simp at this ⊢; left; omega)
            have hr' := decide_eq_true hr
            go_wp2_with fail
            go_roundg (s.size - (i + 1))
            case measure => omega
            case rel => exact ⟨i + 1, by omega, Nat.le_refl _, by go_num, ⟨HK.out HG.out⟩, ⟨HW.out⟩⟩
          · have hr' : decide (0 ≤ r) = false := decide_eq_false hr
            have HL := Lib.hid (show letterB (s[i].toNat : Int) = false by
              have := HS.out; rw [decide_eq_false hr] at this; unfold letterB; rw [HA.out]; simp at this ⊢; omega)
            by_cases i0 : 0 < i
            · have i0' : decide ((0 : Int) < (i : Int)) = true := decide_eq_true (by omega)
              have HZ := Lib.hid (show ((i : Int) == 0) = false by simp; omega)
              by_cases hD : digitB (s[i].toNat : Int) = true
              · have HG := Lib.hid (show (letterB (s[i].toNat : Int) || (!((i : Int) == 0) && digitB (s[i].toNat : Int))) = true by rw [hD, HZ.out]; simp)
                by_cases d48 : 48 ≤ (s[i].toNat : Int)
                · have d57 : (s[i].toNat : Int) ≤ 57 := by simp [digitB, d48] at hD; omega
                  have d48' := decide_eq_true d48
                  have d57' := decide_eq_true d57
                  clear hD
                  go_wp2_with fail
                  go_roundg (s.size - (i + 1))
                  case measure => omega
                  case rel => exact ⟨i + 1, by omega, Nat.le_refl _, by go_num, ⟨HK.out HG.out⟩, ⟨HW.out⟩⟩
                · have d45 : ((s[i].toNat : Int) == 45) = true := by simp [digitB, d48] at hD; simp; omega
                  have d48' : decide (48 ≤ (s[i].toNat : Int)) = false := decide_eq_false d48
                  clear hD
                  go_wp2_with fail
                  go_roundg (s.size - (i + 1))
                  case measure => omega
                  case rel => exact ⟨i + 1, by omega, Nat.le_refl _, by go_num, ⟨HK.out HG.out⟩, ⟨HW.out⟩⟩
              · have HG := Lib.hid (show (letterB (s[i].toNat : Int) || (!((i : Int) == 0) && digitB (s[i].toNat : Int))) = false by rw [HL.out, Bool.eq_false_iff.2 hD]; simp)
                have d45 : ((s[i].toNat : Int) == 45) = false := by simp [digitB] at hD; simp; omega
                by_cases d48 : 48 ≤ (s[i].toNat : Int)
                · have d57' : decide ((s[i].toNat : Int) ≤ 57) = false := decide_eq_false (by simp [digitB, d48] at hD; omega)
                  have d48' := decide_eq_true d48
                  clear hD
                  go_wp2_with fail
                  go_ret
                  exact ⟨ret_b (HF.out HG.out), HW.out⟩
                · have d48' : decide (48 ≤ (s[i].toNat : Int)) = false := decide_eq_false d48
                  clear hD
                  go_wp2_with fail
                  go_ret
                  exact ⟨ret_b (HF.out HG.out), HW.out⟩
            · have i0' : decide ((0 : Int) < (i : Int)) = false := decide_eq_false (by omega)
              have HG := Lib.hid (show (letterB (s[i].toNat : Int) || (!((i : Int) == 0) && digitB (s[i].toNat : Int))) = false by
                obtain rfl : i = 0 := by omega
                rw [HL.out]; simp)
              go_wp2_with fail
              go_ret
              exact ⟨ret_b (HF.out HG.out), HW.out⟩
    · obtain rfl : i = s.size := by omega
      have HX : Hid (decide (1 ≤ (s.size : Int) ∧ (s.size : Int) ≤ 12) = nmB s) := Lib.hid (by
        by_cases g : 1 ≤ s.size ∧ s.size ≤ 12
        · rw [decide_eq_true (by omega)]
          exact nmB_t (.inr (.inr ⟨g.1, g.2, fun i h => HN.out i h h⟩))
        · rw [decide_eq_false (by omega)]
          refine nmB_f ?_
          rintro (h | h | ⟨h, h', _⟩)
          · exact H1.out h
          · exact H2.out h
          · omega)
      go_wp2_with fail
      refine (within_any _ _ _ _).mono ?_
      rintro e w1 ⟨rfl, hb1⟩
      rw [HX.out]
      go_wp2_with fail
      go_ret
      exact ⟨rfl, below_step HW.out hb1⟩
end Go.Proofs.YteeepenncddnjaaDoor
end
section
namespace Go.Proofs.YteeepenncddnjaaDoor
open Go.RowKit Go.Proofs.YteeepenncddnjaaDoorW.PrintWords Go.Proofs.YteeepenncddnjaaDoorW.PrintLast Go.Proofs.YteeepenncddnjaaDoorW.PrintMore
set_option linter.unusedVariables false
set_option linter.unusedSimpArgs false
set_option maxHeartbeats 1000000 in
theorem l1Count_any : ∀ (x : Fm) (A3 : Option Addr) (c3 : Nat) (A4 : Option Addr) (c4 : Nat) (w : World), FmIn w x A3 c3 A4 c4 → x.size < 4611686018427387904 →
    Calls Tryd.prog 67 #[.agg #[.int .i64 x.f0, .string x.f1, .int .i64 x.f2, .slice A3 x.f3.length c3, .slice A4 x.f4.length c4]] w (Ret w (.int .i64 x.size)) := by
  intro x
  induction x using Fm.ind with
  | h x ih =>
    intro A3 c3 A4 c4 w hin hsz
    have hmax := hin.g4.2.1
    have hse := Fm.size_eq x
    have HS := Lib.hid hse
    have hszl : sizes x.f4 < 4611686018427387904 := by omega
    clear hse hsz
    go_enter Tryd.func67, Tryd.ntmps67
    go_wp2_with fail
    go_loopg [3, 4] x.f4.length (fun kq v3 v4 w' => ∃ i : Nat, i ≤ x.f4.length ∧ x.f4.length - i ≤ kq ∧ v4 = .int .i64 i ∧ v3 = .int .i64 ((1 + sizes (x.f4.take i) : Nat) : Int) ∧ Aside0 (w'.heap[w.heap.size]? = some (.cells #[.int .i64 x.f0, .string x.f1, .int .i64 x.f2, .slice A3 x.f3.length c3, .slice A4 x.f4.length c4] 26 (0, 0))) ∧ Aside0 (Below w.heap.size w w'))
    case atStart => exact ⟨0, Nat.zero_le _, by omega, rfl, by simp [sizes], ⟨blk_new w _⟩, ⟨below_new w _⟩⟩
    case round =>
      obtain ⟨i, hi, hg, rfl, rfl, HB, HW⟩ := hrel
      obtain ⟨q0, q1, q2, q3, q4⟩ := fm_cells HB.out
      by_cases hlt : i < x.f4.length
      · obtain ⟨ad, B3, d3, B4, d4, e, h0, h1, h2, h3, h4, hk⟩ := kid_at (Kd.C_below hin.g4 HW.out) i hlt
        have hle := sizes_take_le x.f4 (i + 1)
        rw [sizes_take _ _ hlt] at hle
        have HC := Lib.hid (ih x.f4[i] (List.getElem_mem hlt) B3 d3 B4 d4 wr hk (by omega))
        clear hk ih
        subst e
        go_wp2_with fail
        refine HC.out.mono ?_
        rintro e w1 ⟨rfl, hb1⟩
        go_wp2_with fail
        go_roundg (x.f4.length - (i + 1))
        case measure => omega
        case rel =>
          refine ⟨i + 1, by omega, Nat.le_refl _, by go_num, ?_, ⟨blk_below HB.out hb1⟩, ⟨below_step HW.out hb1⟩⟩
          rw [sizes_take _ _ hlt]; go_num
      · have he : i = x.f4.length := by omega
        subst he
        go_wp2_with fail
        go_ret
        refine ⟨?_, HW.out⟩
        rw [List.take_length, HS.out]
        rfl
end Go.Proofs.YteeepenncddnjaaDoor
end
section
namespace Go.Proofs.YteeepenncddnjaaDoor
open Go.RowKit Go.Proofs.YteeepenncddnjaaDoorW.PrintWords Go.Proofs.YteeepenncddnjaaDoorW.PrintLast Go.Proofs.YteeepenncddnjaaDoorW.PrintMore
set_option linter.unusedVariables false
set_option linter.unusedSimpArgs false
def IsOk : Nat → Fm → Prop
  | 0, _ => False
  | n + 1, x => (x.f0 = 1 ∧ NmOk x.f1 ∧ x.f2 = 0 ∧ ScOk x.f3 ∧ x.f4.length = 0) ∨ (x.f0 = 2 ∧ x.f1.toList = [] ∧ 0 ≤ x.f2 ∧ x.f2 ≤ 999 ∧ x.f3.length = 0 ∧ x.f4.length = 0) ∨ (x.f0 = 3 ∧ x.f1.toList = [] ∧ x.f2 = 0 ∧ x.f3.length = 0 ∧ ∀ k, k ∈ x.f4 → IsOk n k)
theorem isOk1 {n : Nat} {x : Fm} (h : x.f0 = 1) : IsOk (n + 1) x ↔ NmOk x.f1 ∧ x.f2 = 0 ∧ ScOk x.f3 ∧ x.f4.length = 0 := by
  unfold IsOk
  constructor
  · rintro (⟨_, h⟩ | ⟨h2, _⟩ | ⟨h2, _⟩)
    · exact h
    · omega
    · omega
  · exact fun h2 => .inl ⟨h, h2⟩
theorem isOk2 {n : Nat} {x : Fm} (h : x.f0 = 2) : IsOk (n + 1) x ↔ x.f1.toList = [] ∧ 0 ≤ x.f2 ∧ x.f2 ≤ 999 ∧ x.f3.length = 0 ∧ x.f4.length = 0 := by
  unfold IsOk
  constructor
  · rintro (⟨h2, _⟩ | ⟨_, h⟩ | ⟨h2, _⟩)
    · omega
    · exact h
    · omega
  · exact fun h2 => .inr (.inl ⟨h, h2⟩)
theorem isOk3 {n : Nat} {x : Fm} (h1 : x.f0 ≠ 1) (h2 : x.f0 ≠ 2) : IsOk (n + 1) x ↔ x.f0 = 3 ∧ x.f1.toList = [] ∧ x.f2 = 0 ∧ x.f3.length = 0 ∧ ∀ k, k ∈ x.f4 → IsOk n k := by
  conv => lhs; unfold IsOk
  constructor
  · rintro (⟨h, _⟩ | ⟨h, _⟩ | h)
    · exact absurd h h1
    · exact absurd h h2
    · exact h
  · exact fun h => .inr (.inr h)
theorem name_size {x : Fm} (h : x.tot ≤ 1048576) : x.f1.size ≤ 140737488351232 := by rw [Fm.tot_eq] at h; omega
theorem kid_tot {x k : Fm} (h : x.tot ≤ 1048576) (hk : k ∈ x.f4) : k.tot ≤ 1048576 := by
  have := totL_mem hk
  rw [Fm.tot_eq] at h
  omega
set_option maxHeartbeats 4000000 in
set_option maxRecDepth 100000 in
theorem l1Is_any : ∀ (n : Nat) (x : Fm) (A3 : Option Addr) (c3 : Nat) (A4 : Option Addr) (c4 : Nat) (m : Int) (w : World), m = n → n ≤ 1000 → FmIn w x A3 c3 A4 c4 → x.tot ≤ 1048576 →
    Calls Tryd.prog 66 #[.agg #[.int .i64 x.f0, .string x.f1, .int .i64 x.f2, .slice A3 x.f3.length c3, .slice A4 x.f4.length c4], .int .i64 m] w (Ret w (.bool (pB (IsOk n x)))) := by
  intro n
  induction n with
  | zero =>
    intro x A3 c3 A4 c4 m w hm hn hin ht
    have tm : (m == 0) = true := by rw [beq_iff_eq]; omega
    clear hin ht hm
    go_enter Tryd.func66, Tryd.ntmps66
    go_wp2_with fail
    go_ret
    exact ⟨ret_b (pB_no (fun h => h)), below_new w _⟩
  | succ n ih =>
    intro x A3 c3 A4 c4 m w hm hn hin ht
    have tm : (m == 0) = false := by rw [beq_eq_false_iff_ne]; omega
    have m1 : -1000 ≤ m := by omega
    have m2 : m ≤ 1001 := by omega
    have HM := Lib.hid hm
    have HI := Lib.hid hin
    have HT := Lib.hid ht
    have IH := Lib.hid ih
    have hmax := hin.g4.2.1
    have HN := Lib.hid (specName_any x.f1 (w.alloc (.cells #[.int .i64 x.f0, .string x.f1, .int .i64 x.f2, .slice A3 x.f3.length c3, .slice A4 x.f4.length c4] 26)) (name_size ht))
    clear hm hin ht ih hn
    by_cases k1 : x.f0 = 1
    · have e1 : (x.f0 == 1) = true := by simpa using k1
      have K1 := Lib.hid k1
      clear k1
      go_enter Tryd.func66, Tryd.ntmps66
      go_wp2_with fail
      refine HN.out.mono ?_
      rintro e w1 ⟨rfl, hb1⟩
      obtain ⟨z1, b1⟩ := one_new hb1
      obtain ⟨p0, p1, p2, p3, p4⟩ := fm_cells z1
      have B1 := Lib.hid b1
      have HS := Lib.hid (l1Scopes_any x.f3 A3 c3 w1 (Kd.C_below HI.out.g3 b1) HI.out.l3)
      clear hb1 b1
      cases hq : nmB x.f1 with
      | false =>
        have HQ := Lib.hid hq
        clear hq
        go_wp2_with fail
        go_ret
        exact ⟨ret_b (pB_no (fun h => by have := nmB_t ((isOk1 K1.out).1 h).1; rw [HQ.out] at this; cases this)), B1.out⟩
      | true =>
        have HQ := Lib.hid hq
        clear hq
        by_cases h2 : x.f2 = 0
        · have t2 : (x.f2 == 0) = true := by simpa using h2
          have H2 := Lib.hid h2
          clear h2
          go_wp2_with fail
          refine HS.out.mono ?_
          rintro e w2 ⟨rfl, hb2⟩
          have z2 := blk_below z1 hb2
          have B2 := Lib.hid (below_step B1.out hb2)
          clear hb2 z1 p0 p1 p2 p3 p4
          obtain ⟨p0, p1, p2, p3, p4⟩ := fm_cells z2
          cases hq : pB (ScOk x.f3) with
          | false =>
            have HQ2 := Lib.hid hq
            clear hq
            go_wp2_with fail
            go_ret
            exact ⟨ret_b (pB_no (fun h => by have := pB_yes ((isOk1 K1.out).1 h).2.2.1; rw [HQ2.out] at this; cases this)), B2.out⟩
          | true =>
            have HQ2 := Lib.hid hq
            clear hq
            by_cases h3 : x.f4.length = 0
            · have t3 : ((x.f4.length : Int) == 0) = true := by rw [beq_iff_eq]; omega
              have H3 := Lib.hid h3
              clear h3
              go_wp2_with fail
              go_ret
              exact ⟨ret_b (pB_yes ((isOk1 K1.out).2 ⟨(nmB_iff _).1 HQ.out, H2.out, pB_iff.1 HQ2.out, H3.out⟩)), B2.out⟩
            · have t3 : ((x.f4.length : Int) == 0) = false := by rw [beq_eq_false_iff_ne]; omega
              have H3 := Lib.hid h3
              clear h3
              go_wp2_with fail
              go_ret
              exact ⟨ret_b (pB_no (fun h => H3.out ((isOk1 K1.out).1 h).2.2.2)), B2.out⟩
        · have t2 : (x.f2 == 0) = false := by simpa using h2
          have H2 := Lib.hid h2
          clear h2
          go_wp2_with fail
          go_ret
          exact ⟨ret_b (pB_no (fun h => H2.out ((isOk1 K1.out).1 h).2.1)), B1.out⟩
    · have e1 : (x.f0 == 1) = false := by simpa using k1
      have K1 := Lib.hid k1
      clear k1 HN
      by_cases k2 : x.f0 = 2
      · have e2 : (x.f0 == 2) = true := by simpa using k2
        have K2 := Lib.hid k2
        clear k2
        have B0 := Lib.hid (below_new w (.cells #[.int .i64 x.f0, .string x.f1, .int .i64 x.f2, .slice A3 x.f3.length c3, .slice A4 x.f4.length c4] 26))
        go_enter Tryd.func66, Tryd.ntmps66
        by_cases h1 : x.f1.toList = []
        · have t1 : (x.f1.toList == []) = true := by rw [h1]; rfl
          have H1 := Lib.hid h1
          clear h1
          by_cases h2 : 0 ≤ x.f2
          · have t2 : decide (x.f2 ≥ 0) = true := decide_eq_true h2
            have t2' : decide (0 ≤ x.f2) = true := decide_eq_true h2
            have H2 := Lib.hid h2
            clear h2
            by_cases h3 : x.f2 ≤ 999
            · have t3 : decide (x.f2 ≤ 999) = true := decide_eq_true h3
              have H3 := Lib.hid h3
              clear h3
              by_cases h4 : x.f3.length = 0
              · have t4 : ((x.f3.length : Int) == 0) = true := by rw [beq_iff_eq]; omega
                have H4 := Lib.hid h4
                clear h4
                by_cases h5 : x.f4.length = 0
                · have t5 : ((x.f4.length : Int) == 0) = true := by rw [beq_iff_eq]; omega
                  have H5 := Lib.hid h5
                  clear h5
                  go_wp2_with fail
                  go_ret
                  exact ⟨ret_b (pB_yes ((isOk2 K2.out).2 ⟨H1.out, H2.out, H3.out, H4.out, H5.out⟩)), B0.out⟩
                · have t5 : ((x.f4.length : Int) == 0) = false := by rw [beq_eq_false_iff_ne]; omega
                  have H5 := Lib.hid h5
                  clear h5
                  go_wp2_with fail
                  go_ret
                  exact ⟨ret_b (pB_no (fun h => H5.out ((isOk2 K2.out).1 h).2.2.2.2)), B0.out⟩
              · have t4 : ((x.f3.length : Int) == 0) = false := by rw [beq_eq_false_iff_ne]; omega
                have H4 := Lib.hid h4
                clear h4
                go_wp2_with fail
                go_ret
                exact ⟨ret_b (pB_no (fun h => H4.out ((isOk2 K2.out).1 h).2.2.2.1)), B0.out⟩
            · have t3 : decide (x.f2 ≤ 999) = false := decide_eq_false h3
              have H3 := Lib.hid h3
              clear h3
              go_wp2_with fail
              go_ret
              exact ⟨ret_b (pB_no (fun h => by have h1 := H3.out; have h2 := ((isOk2 K2.out).1 h).2.2.1; omega)), B0.out⟩
          · have t2 : decide (x.f2 ≥ 0) = false := decide_eq_false h2
            have t2' : decide (0 ≤ x.f2) = false := decide_eq_false h2
            have H2 := Lib.hid h2
            clear h2
            go_wp2_with fail
            go_ret
            exact ⟨ret_b (pB_no (fun h => by have h1 := H2.out; have h2 := ((isOk2 K2.out).1 h).2.1; omega)), B0.out⟩
        · have t1 : (x.f1.toList == []) = false := by rw [beq_eq_false_iff_ne]; exact h1
          have H1 := Lib.hid h1
          clear h1
          go_wp2_with fail
          go_ret
          exact ⟨ret_b (pB_no (fun h => H1.out ((isOk2 K2.out).1 h).1)), B0.out⟩
      · have e2 : (x.f0 == 2) = false := by simpa using k2
        have K2 := Lib.hid k2
        clear k2
        by_cases k3 : x.f0 = 3
        · have e3 : (x.f0 != 3) = false := by simpa using k3
          have e3' : (x.f0 == 3) = true := by simpa using k3
          have K3 := Lib.hid k3
          clear k3
          have B0 := Lib.hid (below_new w (.cells #[.int .i64 x.f0, .string x.f1, .int .i64 x.f2, .slice A3 x.f3.length c3, .slice A4 x.f4.length c4] 26))
          obtain ⟨p0, p1, p2, p3, p4⟩ := fm_cells (blk_new w (.cells #[.int .i64 x.f0, .string x.f1, .int .i64 x.f2, .slice A3 x.f3.length c3, .slice A4 x.f4.length c4] 26))
          clear p0 p1 p2 p3
          go_enter Tryd.func66, Tryd.ntmps66
          by_cases h1 : x.f1.toList = []
          · have t1 : (x.f1.toList != []) = false := by rw [h1]; rfl
            have t1' : (x.f1.toList == []) = true := by rw [h1]; rfl
            have H1 := Lib.hid h1
            clear h1
            by_cases h2 : x.f2 = 0
            · have t2 : (x.f2 != 0) = false := by simpa using h2
              have H2 := Lib.hid h2
              clear h2
              by_cases h4 : x.f3.length = 0
              · have t4 : ((x.f3.length : Int) != 0) = false := by simp [h4]
                have t4' : ((x.f3.length : Int) == 0) = true := by rw [beq_iff_eq]; omega
                have H4 := Lib.hid h4
                clear h4
                go_wp2_with fail
                go_loopg [5] x.f4.length (fun kq v5 w' => ∃ i : Nat, i ≤ x.f4.length ∧ x.f4.length - i ≤ kq ∧ v5 = .int .i64 i ∧ Aside0 (∀ j (h : j < x.f4.length), j < i → IsOk n x.f4[j]) ∧ Aside0 (Below (w.alloc (.cells #[.int .i64 x.f0, .string x.f1, .int .i64 x.f2, .slice A3 x.f3.length c3, .slice A4 x.f4.length c4] 26)).heap.size (w.alloc (.cells #[.int .i64 x.f0, .string x.f1, .int .i64 x.f2, .slice A3 x.f3.length c3, .slice A4 x.f4.length c4] 26)) w'))
                case atStart => exact ⟨0, Nat.zero_le _, by omega, rfl, ⟨fun j _ h => absurd h (by omega)⟩, ⟨Below.refl _ _⟩⟩
                case round =>
                  obtain ⟨i, hi, hg, rfl, HN, HW⟩ := hrel
                  have q4 := ck0 HW.out p4
                  have HW0 := Lib.hid (below_step B0.out HW.out)
                  by_cases hlt : i < x.f4.length
                  · obtain ⟨ad, G3, m3, G4, m4, e, g0, g1, g2, g3, g4, hk⟩ := kid_at (Kd.C_below HI.out.g4 HW0.out) i hlt
                    subst e
                    have HC := Lib.hid (IH.out x.f4[i] G3 m3 G4 m4 (m - 1) wr (by have := HM.out; omega) (by have := HM.out; omega) hk (kid_tot HT.out (List.getElem_mem hlt)))
                    clear hk
                    go_wp2_with fail
                    refine HC.out.mono ?_
                    rintro e w1 ⟨rfl, hb1⟩
                    have HB1 := Lib.hid hb1
                    clear hb1
                    cases he : pB (IsOk n x.f4[i]) with
                    | true =>
                      have HE := Lib.hid he
                      clear he
                      go_wp2_with fail
                      go_roundg (x.f4.length - (i + 1))
                      case measure => omega
                      case rel =>
                        refine ⟨i + 1, by omega, Nat.le_refl _, by go_num, ⟨fun j hj hji => ?_⟩, ⟨below_step HW.out HB1.out⟩⟩
                        rcases Nat.lt_or_ge j i with h | h
                        · exact HN.out j hj h
                        · obtain rfl : j = i := by omega
                          exact pB_iff.1 HE.out
                    | false =>
                      have HE := Lib.hid he
                      clear he
                      go_wp2_with fail
                      go_ret
                      refine ⟨ret_b (pB_no (fun h => ?_)), below_step HW0.out HB1.out⟩
                      have := pB_yes (((isOk3 K1.out K2.out).1 h).2.2.2.2 _ (List.getElem_mem hlt))
                      rw [HE.out] at this
                      cases this
                  · obtain rfl : i = x.f4.length := by omega
                    go_wp2_with fail
                    go_ret
                    refine ⟨ret_b (pB_yes ((isOk3 K1.out K2.out).2 ⟨K3.out, H1.out, H2.out, H4.out, fun k hk => ?_⟩)), HW0.out⟩
                    obtain ⟨j, hj, rfl⟩ := List.getElem_of_mem hk
                    exact HN.out j hj hj
              · have t4 : ((x.f3.length : Int) != 0) = true := by rw [bne_iff_ne]; omega
                have t4' : ((x.f3.length : Int) == 0) = false := by rw [beq_eq_false_iff_ne]; omega
                have H4 := Lib.hid h4
                clear h4
                go_wp2_with fail
                go_ret
                exact ⟨ret_b (pB_no (fun h => by have h1 := H4.out; have h2 := ((isOk3 K1.out K2.out).1 h).2.2.2.1; omega)), B0.out⟩
            · have t2 : (x.f2 != 0) = true := by simpa using h2
              have H2 := Lib.hid h2
              clear h2
              go_wp2_with fail
              go_ret
              exact ⟨ret_b (pB_no (fun h => H2.out ((isOk3 K1.out K2.out).1 h).2.2.1)), B0.out⟩
          · have t1 : (x.f1.toList != []) = true := by rw [bne_iff_ne]; exact h1
            have t1' : (x.f1.toList == []) = false := by rw [beq_eq_false_iff_ne]; exact h1
            have H1 := Lib.hid h1
            clear h1
            go_wp2_with fail
            go_ret
            exact ⟨ret_b (pB_no (fun h => H1.out ((isOk3 K1.out K2.out).1 h).2.1)), B0.out⟩
        · have e3 : (x.f0 != 3) = true := by simpa using k3
          have e3' : (x.f0 == 3) = false := by simpa using k3
          have K3 := Lib.hid k3
          clear k3
          have B0 := Lib.hid (below_new w (.cells #[.int .i64 x.f0, .string x.f1, .int .i64 x.f2, .slice A3 x.f3.length c3, .slice A4 x.f4.length c4] 26))
          go_enter Tryd.func66, Tryd.ntmps66
          go_wp2_with fail
          go_ret
          exact ⟨ret_b (pB_no (fun h => K3.out ((isOk3 K1.out K2.out).1 h).1)), B0.out⟩
def FmOk (x : Fm) : Prop := IsOk 40 x ∧ x.size ≤ 400
theorem specValid_any (x : Fm) (A3 : Option Addr) (c3 : Nat) (A4 : Option Addr) (c4 : Nat) (w : World) (hin : FmIn w x A3 c3 A4 c4) (ht : x.tot ≤ 1048576) :
    Calls Tryd.prog 39 #[.agg #[.int .i64 x.f0, .string x.f1, .int .i64 x.f2, .slice A3 x.f3.length c3, .slice A4 x.f4.length c4]] w (Ret w (.bool (pB (FmOk x)))) := by
  have hb := below_new w (.cells #[.int .i64 x.f0, .string x.f1, .int .i64 x.f2, .slice A3 x.f3.length c3, .slice A4 x.f4.length c4] 26)
  have HI := Lib.hid (l1Is_any 40 x A3 c3 A4 c4 40 _ rfl (by omega) (hin.below hb) ht)
  have hsz : x.size < 4611686018427387904 := by have := sizes_totL x; omega
  have HS := Lib.hid (fun W hb => l1Count_any x A3 c3 A4 c4 W (hin.below hb) hsz)
  clear hb hin
  go_enter Tryd.func39, Tryd.ntmps39
  go_wp2_with fail
  refine HI.out.mono ?_
  rintro e w1 ⟨rfl, hb1⟩
  obtain ⟨z1, b1⟩ := one_new hb1
  obtain ⟨p0, p1, p2, p3, p4⟩ := fm_cells z1
  have B1 := Lib.hid b1
  have HS1 := Lib.hid (HS.out _ b1)
  clear hb1 b1 HS
  cases hq : pB (IsOk 40 x) with
  | false =>
    have HQ := Lib.hid hq
    clear hq
    go_wp2_with fail
    go_ret
    exact ⟨ret_b (pB_no (fun h => by have := pB_yes h.1; rw [HQ.out] at this; cases this)), B1.out⟩
  | true =>
    have HQ := Lib.hid hq
    clear hq
    go_wp2_with fail
    refine HS1.out.mono ?_
    rintro e w2 ⟨rfl, hb2⟩
    have B2 := Lib.hid (below_step B1.out hb2)
    clear hb2
    by_cases h4 : x.size ≤ 400
    · have t1 : decide ((x.size : Int) ≤ 400) = true := decide_eq_true (by omega)
      have H4 := Lib.hid h4
      clear h4
      go_wp2_with fail
      go_ret
      exact ⟨ret_b (pB_yes ⟨pB_iff.1 HQ.out, H4.out⟩), B2.out⟩
    · have t1 : decide ((x.size : Int) ≤ 400) = false := decide_eq_false (by omega)
      have H4 := Lib.hid h4
      clear h4
      go_wp2_with fail
      go_ret
      exact ⟨ret_b (pB_no (fun h => by have h1 := H4.out; have h2 := h.2; omega)), B2.out⟩
end Go.Proofs.YteeepenncddnjaaDoor
end
section
namespace Go.Proofs.YteeepenncddnjaaDoor
open Go.RowKit Go.Proofs.YteeepenncddnjaaDoorW.PrintWords Go.Proofs.YteeepenncddnjaaDoorW.PrintLast Go.Proofs.YteeepenncddnjaaDoorW.PrintMore
set_option linter.unusedVariables false
set_option linter.unusedSimpArgs false
def B8 (l : List UInt8) : ByteArray := ⟨l.toArray⟩
theorem B8_toList (l : List UInt8) : (B8 l).data.toList = l := rfl
theorem B8_size (l : List UInt8) : (B8 l).size = l.length := by simp [B8, ByteArray.size]
theorem B8_ext {a b : ByteArray} (h : a.data.toList = b.data.toList) : a = b := by
  cases a; cases b; simp only [ByteArray.mk.injEq]; exact Array.toList_inj.1 h
theorem B8_append (a b : List UInt8) : B8 a ++ B8 b = B8 (a ++ b) := B8_ext (by simp [B8])
theorem B8_of (s : ByteArray) : B8 s.data.toList = s := B8_ext rfl
theorem B8_map (l : List (List UInt8)) : (l.map B8).map (·.data.toList) = l := by
  induction l with
  | nil => rfl
  | cons x r ih => simp only [List.map_cons, ih]; rfl
/-! Digits -/
theorem itoa_pos (n : Int) (h : 0 ≤ n) : Lib.itoa n = Lib.decDigits n.toNat := by unfold Lib.itoa; rw [if_neg (by omega)]
theorem decDigits_len : ∀ (k n : Nat), n < 10 ^ (k + 1) → (Lib.decDigits n).length ≤ k + 1
  | k, n, h => by
    by_cases h1 : n < 10
    · rw [Lib.decDigits, dif_pos h1]; simp
    · cases k with
      | zero => omega
      | succ k =>
        rw [Lib.decDigits, dif_neg h1]
        have := decDigits_len k (n / 10) (by rw [Nat.pow_succ] at h; omega)
        simp; omega
theorem itoa_len (n : Int) (h0 : 0 ≤ n) (h1 : n ≤ 999) : (Lib.itoa n).length ≤ 3 := by
  rw [itoa_pos n h0]; exact decDigits_len 2 n.toNat (by omega)
/-! Joining -/
theorem join_snoc (xs : List (List UInt8)) (y sep : List UInt8) (h : xs ≠ []) : Lib.join (xs ++ [y]) sep = Lib.join xs sep ++ sep ++ y := by
  cases xs with
  | nil => exact absurd rfl h
  | cons x r => rw [List.cons_append, Lib.join_cons, Lib.join_cons]; simp [Lib.joinTail, List.append_assoc]
def lens : List (List UInt8) → Nat
  | [] => 0
  | x :: r => x.length + 1 + lens r
theorem join_len (xs : List (List UInt8)) (s : UInt8) : (Lib.join xs [s]).length ≤ lens xs := by
  cases xs with
  | nil => simp [Lib.join_nil, lens]
  | cons x r =>
    rw [Lib.join_cons]
    have : ∀ r, (Lib.joinTail [s] r).length = lens r := by
      intro r
      induction r with
      | nil => rfl
      | cons y r ih => simp only [Lib.joinTail, List.map_cons, List.flatten_cons, List.length_append, lens] at ih ⊢; rw [ih]; simp; omega
    rw [List.length_append, this]
    simp [lens]
theorem lens_append (a b : List (List UInt8)) : lens (a ++ b) = lens a + lens b := by
  induction a with
  | nil => simp [lens]
  | cons x r ih => simp only [List.cons_append, lens, ih]; omega
theorem lens_take (l : List (List UInt8)) (i : Nat) : lens (l.take i) ≤ lens l := by
  have h := lens_append (l.take i) (l.drop i)
  rw [List.take_append_drop] at h
  omega
/-! Texts -/
def digs (sc : List Int) : List (List UInt8) := sc.map Lib.itoa
def scTx (sc : List Int) : List UInt8 := if sc.length = 0 then [] else 123 :: (Lib.join (digs sc) [44] ++ [125])
def nameT (s : ByteArray) (sc : List Int) : List UInt8 := s.data.toList ++ scTx sc
mutual
def Fm.txt : Fm → List UInt8
  | ⟨k, s, n, sc, ks⟩ => if k = 2 then Lib.itoa n else if k = 1 then nameT s sc else 40 :: (Lib.join (txtL ks) [32] ++ [41])
def txtL : List Fm → List (List UInt8)
  | [] => []
  | k :: ks => k.txt :: txtL ks
end
theorem Fm.txt_eq (x : Fm) : x.txt = if x.f0 = 2 then Lib.itoa x.f2 else if x.f0 = 1 then nameT x.f1 x.f3 else 40 :: (Lib.join (txtL x.f4) [32] ++ [41]) := by cases x; simp only [Fm.txt]
theorem txtL_map (l : List Fm) : txtL l = l.map Fm.txt := by
  induction l with
  | nil => simp [txtL]
  | cons x r ih => simp only [txtL, ih, List.map_cons]
theorem txtL_len (l : List Fm) : (txtL l).length = l.length := by rw [txtL_map, List.length_map]
theorem txtL_take (l : List Fm) (i : Nat) (h : i < l.length) : (txtL l).take (i + 1) = (txtL l).take i ++ [l[i].txt] := by
  rw [List.take_succ_eq_append_getElem (by rw [txtL_len]; exact h)]
  congr 2
  simp [txtL_map]
theorem digs_len (l : List Int) : (digs l).length = l.length := by simp [digs]
theorem digs_take (l : List Int) (i : Nat) (h : i < l.length) : (digs l).take (i + 1) = (digs l).take i ++ [Lib.itoa l[i]] := by
  rw [List.take_succ_eq_append_getElem (by rw [digs_len]; exact h)]
  congr 2
  simp [digs]
theorem take_ne {α : Type} (l : List α) (i : Nat) (h : i < l.length) (h0 : i ≠ 0) : l.take i ≠ [] := by
  intro e
  have := congrArg List.length e
  rw [List.length_take, List.length_nil] at this
  omega
theorem lens_digs (sc : List Int) (h : ScOk sc) : lens (digs sc) ≤ 4 * sc.length := by
  have key : ∀ sc : List Int, (∀ x, x ∈ sc → 1 ≤ x ∧ x ≤ 99) → lens (digs sc) ≤ 4 * sc.length := by
    intro sc hs
    induction sc with
    | nil => simp [digs, lens]
    | cons y r ih =>
      have h1 := hs y List.mem_cons_self
      have h2 := itoa_len y (by omega) (by omega)
      have h3 := ih (fun x hx => hs x (List.mem_cons_of_mem _ hx))
      simp only [digs, List.map_cons, lens, List.length_cons] at h3 ⊢
      omega
  refine key sc (fun x hx => ?_)
  obtain ⟨i, hi, rfl⟩ := List.getElem_of_mem hx
  have := h.2 i hi
  omega
theorem nmOk_sz12 {s : ByteArray} (h : NmOk s) : s.size ≤ 12 := by
  rcases h with h | h | h
  · have := congrArg List.length h; rw [ByteArray.toList_eq, Array.length_toList] at this; have e : s.size = s.data.size := rfl; simp at this; omega
  · have := congrArg List.length h; rw [ByteArray.toList_eq, Array.length_toList] at this; have e : s.size = s.data.size := rfl; simp at this; omega
  · exact h.2.1
theorem nameT_len {s : ByteArray} {sc : List Int} (h1 : NmOk s) (h2 : ScOk sc) : (nameT s sc).length ≤ 110 := by
  have a := nmOk_sz12 h1
  have b := lens_digs sc h2
  have c := join_len (digs sc) 44
  have d := h2.1
  have e : s.data.toList.length = s.size := Array.length_toList
  unfold nameT scTx
  split
  · simp; omega
  · simp; omega
/-- A form in order has a short text. -/
theorem txt_len : ∀ (n : Nat) (x : Fm), IsOk n x → x.txt.length + 1 ≤ 200 * x.size
  | 0, x, h => absurd h (fun h => h)
  | n + 1, x, h => by
    rw [Fm.txt_eq, Fm.size_eq]
    by_cases h1 : x.f0 = 2
    · rw [if_pos h1]
      have q := (isOk2 h1).1 h
      have := itoa_len x.f2 q.2.1 q.2.2.1
      omega
    · rw [if_neg h1]
      by_cases h2 : x.f0 = 1
      · rw [if_pos h2]
        have q := (isOk1 h2).1 h
        have := nameT_len q.1 q.2.2.1
        omega
      · rw [if_neg h2]
        have q := (isOk3 h2 h1).1 h
        have key : ∀ l : List Fm, (∀ k, k ∈ l → IsOk n k) → lens (txtL l) ≤ 200 * sizes l := by
          intro l hl
          induction l with
          | nil => simp [txtL, lens, sizes]
          | cons y r ih =>
            have := txt_len n y (hl y List.mem_cons_self)
            have := ih (fun k hk => hl k (List.mem_cons_of_mem _ hk))
            simp only [txtL, lens, sizes]
            omega
        have := key x.f4 q.2.2.2.2
        have := join_len (txtL x.f4) 32
        simp
        omega
theorem lens_txt {n : Nat} {l : List Fm} (hl : ∀ k, k ∈ l → IsOk n k) : lens (txtL l) ≤ 200 * sizes l := by
  induction l with
  | nil => simp [txtL, lens, sizes]
  | cons y r ih =>
    have := txt_len n y (hl y List.mem_cons_self)
    have := ih (fun k hk => hl k (List.mem_cons_of_mem _ hk))
    simp only [txtL, lens, sizes]
    omega
end Go.Proofs.YteeepenncddnjaaDoor
end
section
namespace Go.Proofs.YteeepenncddnjaaDoor.Q
open Go.RowKit Go.Proofs.YteeepenncddnjaaDoorW.PrintWords Go.Proofs.YteeepenncddnjaaDoorW.PrintLast Go.Proofs.YteeepenncddnjaaDoorW.PrintMore
attribute [local go_sem] max2_int min2_int max_two min_two max_three min_three max_four min_four   -- for this text's walks alone
set_option linter.unusedVariables false
set_option linter.unusedSimpArgs false

mutual
def spec_l15Dec.l0 : Nat → Int → ByteArray → Option (ByteArray)
  | 0, _, _ => none
  | k + 1, x0, x3 => if x0 > 9 then ((some (([(wrap64 (48 + (Int.tmod x0 10))) % 256] : List Int) : List Int)).bind fun y134 => (if (strOfNums y134).size + x3.size ≤ 9223372036854775807 then (spec_l15Dec.l0 k (wrap64 (Int.tdiv x0 10)) ((strOfNums y134) ++ x3)) else (none))) else ((some (([(wrap64 (48 + x0)) % 256] : List Int) : List Int)).bind fun y137 => (if (strOfNums y137).size + x3.size ≤ 9223372036854775807 then (some ((strOfNums y137) ++ x3)) else (none)))
def spec_l15Dec.f : Nat → Int → Option (ByteArray)
  | 0, _ => none
  | k + 1, a0 => if a0 < (-9223372036854775807) then (some (⟨#[45, 57, 50, 50, 51, 51, 55, 50, 48, 51, 54, 56, 53, 52, 55, 55, 53, 56, 48, 56]⟩ : ByteArray)) else (if a0 < 0 then ((spec_l15Dec.f k (wrap64 (-a0))).bind fun t133 => (if 1 + t133.size ≤ 9223372036854775807 then (some ((⟨#[45]⟩ : ByteArray) ++ t133)) else (none))) else (spec_l15Dec.l0 k a0 (⟨#[]⟩ : ByteArray)))
end
theorem spec_l15Dec.mono_l : ∀ k, (∀ y0, LeO (spec_l15Dec.f k y0) (spec_l15Dec.f (k + 1) y0)) ∧ (∀ y0 y1, LeO (spec_l15Dec.l0 k y0 y1) (spec_l15Dec.l0 (k + 1) y0 y1))
  | 0 => ⟨fun _ r h => by simp [spec_l15Dec.f] at h, fun _ _ r h => by simp [spec_l15Dec.l0] at h⟩
  | k + 1 => by
    obtain ⟨ih0, ih1⟩ := spec_l15Dec.mono_l k
    refine ⟨?_, ?_⟩
    · intro y0
      unfold spec_l15Dec.f
      repeat' first
      | (with_reducible exact ih0 _)
      | (with_reducible exact ih1 _ _)
      | (with_reducible exact LeO.refl _)
      | (with_reducible exact LeO.none _)
      | (with_reducible refine LeO.ite ?_ ?_)
      | (with_reducible refine LeO.bind ?_ (fun _ => ?_))
      | exact ih0 _
      | exact ih1 _ _
      | exact LeO.none _
      | refine LeO.ite ?_ ?_
      | refine LeO.bind ?_ (fun _ => ?_)
    · intro y0 y1
      unfold spec_l15Dec.l0
      repeat' first
      | (with_reducible exact ih0 _)
      | (with_reducible exact ih1 _ _)
      | (with_reducible exact LeO.refl _)
      | (with_reducible exact LeO.none _)
      | (with_reducible refine LeO.ite ?_ ?_)
      | (with_reducible refine LeO.bind ?_ (fun _ => ?_))
      | exact ih0 _
      | exact ih1 _ _
      | exact LeO.none _
      | refine LeO.ite ?_ ?_
      | refine LeO.bind ?_ (fun _ => ?_)
theorem spec_l15Dec.mono : ∀ a0 k, LeO (spec_l15Dec.f k a0) (spec_l15Dec.f (k + 1) a0) := by
  intro a0 k
  obtain ⟨ih0, ih1⟩ := spec_l15Dec.mono_l k
  exact ih0 a0
set_option maxHeartbeats 8000000 in
set_option maxRecDepth 100000 in
theorem spec_l15Dec.calls (k : Nat) : ∀ (a0 : Int) (r : ByteArray) (w : World) (h : spec_l15Dec.f k a0 = some r),
    Calls Tryd.prog 49 #[.int .i64 a0] w fun e w' => e = .returned (.string r) ∧ Below w.heap.size w w' := by
  induction k using Nat.strongRecOn with
  | _ k ih =>
  intro a0 r w h
  cases k with
  | zero => exact absurd h (by simp [spec_l15Dec.f])
  | succ k =>
  simp only [spec_l15Dec.f] at h
  have HB := Aside0.mk (Below.refl w.heap.size w)
  have H : (if a0 < (-9223372036854775807) then (some (⟨#[45, 57, 50, 50, 51, 51, 55, 50, 48, 51, 54, 56, 53, 52, 55, 55, 53, 56, 48, 56]⟩ : ByteArray)) else (if a0 < 0 then ((spec_l15Dec.f k (wrap64 (-a0))).bind fun t133 => (if 1 + t133.size ≤ 9223372036854775807 then (some ((⟨#[45]⟩ : ByteArray) ++ t133)) else (none))) else (spec_l15Dec.l0 k a0 (⟨#[]⟩ : ByteArray)))) = some r := h
  clear h
  by_cases c2 : a0 < (-9223372036854775807)
  · rw [if_pos c2] at H
    have c2b0 : decide (a0 < (-9223372036854775807)) = true := decide_eq_true c2
    clear c2
    obtain rfl := Option.some.inj H
    go_enter Tryd.func49, Tryd.ntmps49
    go_wp2
    go_ret
    exact ⟨by first | rfl | (simp [errW_none, errW_some] <;> rfl) | (simp [*, errW_none, errW_some] <;> rfl), by repeat (first | (with_reducible first | exact HB.out | apply below_alloc | apply pw_below_drewN | apply below_drew1) | exact HB.out)⟩
  · rw [if_neg c2] at H
    have c2b0 : decide (a0 < (-9223372036854775807)) = false := decide_eq_false c2
    clear c2
    by_cases c3 : a0 < 0
    · rw [if_pos c3] at H
      have c3b0 : decide (a0 < 0) = true := decide_eq_true c3
      clear c3
      replace H := Option.bind_eq_some_iff.mp H
      obtain ⟨t133, A40, H⟩ := H
      replace H : (if 1 + t133.size ≤ 9223372036854775807 then (some ((⟨#[45]⟩ : ByteArray) ++ t133)) else (none)) = some r := H
      have A4 := Aside0.mk A40
      clear A40
      by_cases c5 : 1 + t133.size ≤ 9223372036854775807
      · rw [if_pos c5] at H
        have c5b0 := eq_true c5
        have c5b1 : decide (1 + t133.size ≤ 9223372036854775807) = true := decide_eq_true c5
        try have c5b2 : (9223372036854775807 < 1 + t133.size) = False := eq_false (Nat.not_lt.2 c5)
        obtain rfl := Option.some.inj H
        go_enter Tryd.func49, Tryd.ntmps49
        go_wp2_with (first | ((with_reducible refine gate_callee (f := 49) rfl ?_); refine goesL_ (some 10) rfl rfl Tryd.func49 (by kernel_rfl) rfl #[.int .i64 (wrap64 (-a0))] rfl (by (try simp only [List.map_toArray, List.map_cons, List.map_nil]); first | done | rfl | (simp only [List.length_drop, List.length_take]; rfl)) ?_; (with_reducible refine (ih k (by omega) (wrap64 (-a0)) t133 _ A4.out).mono ?_); rintro e w6 ⟨rfl, hb⟩; refine ⟨_, rfl, ?_⟩; have n0_ := Aside0.mk (below_step (by repeat (first | (with_reducible first | exact HB.out | apply below_alloc | apply pw_below_drewN | apply below_drew1) | exact HB.out)) hb); clear HB; have HB := n0_; clear n0_; (try clear hb); (try clear hb2); (try clear hk); (try clear hi)))
        go_ret
        exact ⟨by first | rfl | (simp [errW_none, errW_some] <;> rfl) | (simp [*, errW_none, errW_some] <;> rfl), by repeat (first | (with_reducible first | exact HB.out | apply below_alloc | apply pw_below_drewN | apply below_drew1) | exact HB.out)⟩
      · rw [if_neg c5] at H
        exact absurd H (by simp)
    · rw [if_neg c3] at H
      have c3b0 : decide (a0 < 0) = false := decide_eq_false c3
      clear c3
      have H' := Aside0.mk H
      clear H
      go_enter Tryd.func49, Tryd.ntmps49
      go_wp2
      go_loopg [0, 3] k (fun kq v0 v3 w' => ∃ (x0_1 : Int) (x3_1 : ByteArray), v0 = .int .i64 x0_1 ∧ v3 = .string x3_1 ∧ Aside0 (spec_l15Dec.l0 kq x0_1 x3_1 = some r) ∧ Aside0 (kq ≤ k) ∧ Aside0 (Below w.heap.size w w'))
      case atStart => exact ⟨(a0), ((⟨#[]⟩ : ByteArray)), (by first | rfl | (simp; done) | (simp [*]; done)), (by first | rfl | (simp; done) | (simp [*]; done)), H', ⟨Nat.le_refl _⟩, ⟨by repeat (first | (with_reducible first | exact HB.out | apply below_alloc | apply pw_below_drewN | apply below_drew1) | exact HB.out)⟩⟩
      case round =>
        clear H'
        try clear c2
        try clear c2b0
        try clear p2
        try clear c3
        try clear c3b0
        try clear c4
        try clear c5
        try clear c5b0
        try clear c5b1
        try clear c5b2
        try clear p6
        obtain ⟨x0_1, x3_1, rfl, rfl, HA, HK1, HB⟩ := hrel
        cases gk with
        | zero => exact absurd HA.out (by simp [spec_l15Dec.l0])
        | succ k1 =>
          have H := HA.out
          clear HA
          simp only [spec_l15Dec.l0] at H
          by_cases c7 : x0_1 > 9
          · rw [if_pos c7] at H
            have c7b0 : decide (9 < x0_1) = true := decide_eq_true c7
            clear c7
            obtain ⟨y134, hy134⟩ : ∃ y_ : List Int, y_ = (([(wrap64 (48 + (Int.tmod x0_1 10))) % 256] : List Int)) := ⟨_, rfl⟩
            replace H : (if (strOfNums y134).size + x3_1.size ≤ 9223372036854775807 then (spec_l15Dec.l0 k1 (wrap64 (Int.tdiv x0_1 10)) ((strOfNums y134) ++ x3_1)) else (none)) = some r := by first | (rw [hy134]; with_reducible exact H) | (have H2_ := (Option.bind_some _ _).symm.trans H; rw [hy134]; with_reducible exact H2_) | (have H2_ := (Option.bind_some _ _).symm.trans H; with_reducible exact H2_) | with_reducible exact H | (rw [hy134]; exact H) | exact H
            have Ny134 := Aside0.mk hy134
            clear hy134
            by_cases c8 : (strOfNums y134).size + x3_1.size ≤ 9223372036854775807
            · rw [if_pos c8] at H
              have c8b0 := eq_true c8
              have c8b1 : decide ((strOfNums y134).size + x3_1.size ≤ 9223372036854775807) = true := decide_eq_true c8
              try have c8b2 : (9223372036854775807 < (strOfNums y134).size + x3_1.size) = False := eq_false (Nat.not_lt.2 c8)
              have H' := Aside0.mk H
              clear H
              go_wp2_with (first | ((with_reducible refine gate_dst (N := 18) rfl ?_); refine Kd.R_lit (Kd.int .u8) _ 5 ?hg (N := 18) ?hd (xs := ([(wrap64 (48 + (Int.tmod x0_1 10))) % 256] : List Int)) (inner := [.int .u8 ((wrap64 (48 + (Int.tmod x0_1 10))) % 256)]) (ok := fun _ => True) (okp := fun _ => True) ?hr ?hp (fun _ hk => hk) trivial (Below.refl _ _) (Nat.le_refl _) (by simp) ?_; (case hd => rfl); (case hg => rfl); (case hr => first | (go_simp; done) | (go_simp; rfl)); (case hp => exact (Reps.one (show Kd.M (Kd.int .u8) _ _ _ ((wrap64 (48 + (Int.tmod x0_1 10))) % 256) [.int .u8 ((wrap64 (48 + (Int.tmod x0_1 10))) % 256)] from rfl) (Reps.none _ _))); intro v135 w9 ho10 hb hg_ hnew_; clear hg_ hnew_; (first | rw [← Ny134.out] at ho10 | (simp only [Int.reduceToNat] at ho10; rw [← Ny134.out] at ho10)); have n0_ := Aside0.mk (Kd.R_lower ho10 (below_size (by repeat (first | (with_reducible first | exact HB.out | apply below_alloc | apply pw_below_drewN | apply below_drew1) | exact HB.out)))); have n1_ := Aside0.mk (below_step (by repeat (first | (with_reducible first | exact HB.out | apply below_alloc | apply pw_below_drewN | apply below_drew1) | exact HB.out)) hb); clear HB; have HO136 := n0_; have HB := n1_; clear n0_ n1_; clear hb ho10; have hcv11 := own_string (P := Tryd.prog) Tryd.underlying22 Tryd.underlying5 Tryd.underlying9 (Kd.own_of_R HO136.out)))
              go_roundg k1
              case measure => have := HK1.out; omega
              case rel => exact ⟨(wrap64 (Int.tdiv x0_1 10)), ((strOfNums y134) ++ x3_1), (by first | rfl | (simp; done) | (simp [*]; done)), (by first | rfl | (simp; done) | (simp [*]; done)), H', ⟨by have := HK1.out; omega⟩, ⟨by repeat (first | (with_reducible first | exact HB.out | apply below_alloc | apply pw_below_drewN | apply below_drew1) | exact HB.out)⟩⟩
            · rw [if_neg c8] at H
              exact absurd H (by simp)
          · rw [if_neg c7] at H
            have c7b0 : decide (9 < x0_1) = false := decide_eq_false c7
            clear c7
            obtain ⟨y137, hy137⟩ : ∃ y_ : List Int, y_ = (([(wrap64 (48 + x0_1)) % 256] : List Int)) := ⟨_, rfl⟩
            replace H : (if (strOfNums y137).size + x3_1.size ≤ 9223372036854775807 then (some ((strOfNums y137) ++ x3_1)) else (none)) = some r := by first | (rw [hy137]; with_reducible exact H) | (have H2_ := (Option.bind_some _ _).symm.trans H; rw [hy137]; with_reducible exact H2_) | (have H2_ := (Option.bind_some _ _).symm.trans H; with_reducible exact H2_) | with_reducible exact H | (rw [hy137]; exact H) | exact H
            have Ny137 := Aside0.mk hy137
            clear hy137
            by_cases c12 : (strOfNums y137).size + x3_1.size ≤ 9223372036854775807
            · rw [if_pos c12] at H
              have c12b0 := eq_true c12
              have c12b1 : decide ((strOfNums y137).size + x3_1.size ≤ 9223372036854775807) = true := decide_eq_true c12
              try have c12b2 : (9223372036854775807 < (strOfNums y137).size + x3_1.size) = False := eq_false (Nat.not_lt.2 c12)
              obtain rfl := Option.some.inj H
              go_wp2_with (first | ((with_reducible refine gate_dst (N := 27) rfl ?_); refine Kd.R_lit (Kd.int .u8) _ 5 ?hg (N := 27) ?hd (xs := ([(wrap64 (48 + x0_1)) % 256] : List Int)) (inner := [.int .u8 ((wrap64 (48 + x0_1)) % 256)]) (ok := fun _ => True) (okp := fun _ => True) ?hr ?hp (fun _ hk => hk) trivial (Below.refl _ _) (Nat.le_refl _) (by simp) ?_; (case hd => rfl); (case hg => rfl); (case hr => first | (go_simp; done) | (go_simp; rfl)); (case hp => exact (Reps.one (show Kd.M (Kd.int .u8) _ _ _ ((wrap64 (48 + x0_1)) % 256) [.int .u8 ((wrap64 (48 + x0_1)) % 256)] from rfl) (Reps.none _ _))); intro v138 w13 ho14 hb hg_ hnew_; clear hg_ hnew_; (first | rw [← Ny137.out] at ho14 | (simp only [Int.reduceToNat] at ho14; rw [← Ny137.out] at ho14)); have n0_ := Aside0.mk (Kd.R_lower ho14 (below_size (by repeat (first | (with_reducible first | exact HB.out | apply below_alloc | apply pw_below_drewN | apply below_drew1) | exact HB.out)))); have n1_ := Aside0.mk (below_step (by repeat (first | (with_reducible first | exact HB.out | apply below_alloc | apply pw_below_drewN | apply below_drew1) | exact HB.out)) hb); clear HB; have HO139 := n0_; have HB := n1_; clear n0_ n1_; clear hb ho14; have hcv15 := own_string (P := Tryd.prog) Tryd.underlying22 Tryd.underlying5 Tryd.underlying9 (Kd.own_of_R HO139.out)))
              go_ret
              exact ⟨by first | rfl | (simp [errW_none, errW_some] <;> rfl) | (simp [*, errW_none, errW_some] <;> rfl), by repeat (first | (with_reducible first | exact HB.out | apply below_alloc | apply pw_below_drewN | apply below_drew1) | exact HB.out)⟩
            · rw [if_neg c12] at H
              exact absurd H (by simp)

end Go.Proofs.YteeepenncddnjaaDoor.Q
end
section
namespace Go.Proofs.YteeepenncddnjaaDoor
open Go.RowKit Go.Proofs.YteeepenncddnjaaDoorW.PrintWords Go.Proofs.YteeepenncddnjaaDoorW.PrintLast Go.Proofs.YteeepenncddnjaaDoorW.PrintMore
set_option linter.unusedVariables false
set_option linter.unusedSimpArgs false
theorem wr_nat (n : Nat) (h : n < 4611686018427387904) : wrap64 (n : Int) = (n : Int) := Go.IntWalk.wrap64_in _ ⟨by omega, by omega⟩
theorem one_byte {z : Int} (n : Nat) (hz : z = (n : Int)) (h : n < 256) : strOfNums [wrap64 z % 256] = B8 [UInt8.ofNat n] := by
  rw [hz, wr_nat n (by omega)]
  refine B8_ext ?_
  rw [strOfNums_data, B8_toList, List.map_cons, List.map_nil]
  congr 2
  omega
theorem decL : ∀ (k x : Nat) (acc : ByteArray), x < k → acc.size + x ≤ 1000000 → Q.spec_l15Dec.l0 k (x : Int) acc = some (B8 (Lib.decDigits x) ++ acc)
  | 0, x, acc, h, _ => absurd h (Nat.not_lt_zero x)
  | k + 1, x, acc, h, hs => by
    rw [Q.spec_l15Dec.l0]
    by_cases h1 : x < 10
    · rw [if_neg (by omega), Option.bind_some, one_byte (48 + x) (by omega) (by omega), if_pos (by rw [B8_size]; simp; omega), Lib.decDigits, dif_pos h1]
    · rw [if_pos (by omega), Option.bind_some, one_byte (48 + x % 10) (by rw [Int.tmod_eq_emod_of_nonneg (by omega)]; omega) (by omega), if_pos (by rw [B8_size]; simp; omega)]
      rw [show wrap64 (Int.tdiv (x : Int) 10) = ((x / 10 : Nat) : Int) from by rw [Int.tdiv_eq_ediv_of_nonneg (by omega), show (x : Int) / 10 = ((x / 10 : Nat) : Int) from by omega]; exact wr_nat _ (by omega)]
      rw [decL k (x / 10) _ (by omega) (by rw [ByteArray.size_append, B8_size]; simp; omega)]
      conv => rhs; rw [Lib.decDigits, dif_neg h1]
      rw [← B8_append, ByteArray.append_assoc]
theorem dec_f (n : Int) (h0 : 0 ≤ n) (h1 : n ≤ 999) : Q.spec_l15Dec.f 2000 n = some (B8 (Lib.itoa n)) := by
  obtain ⟨m, rfl⟩ : ∃ m : Nat, n = m := ⟨n.toNat, by omega⟩
  rw [Q.spec_l15Dec.f, if_neg (by omega), if_neg (by omega), decL 1999 m _ (by omega) (by show (ByteArray.mk #[]).size + m ≤ 1000000; have : (ByteArray.mk #[]).size = 0 := rfl; omega), itoa_pos _ h0, Int.toNat_natCast]
  congr 1
  exact B8_append _ []|>.trans (by rw [List.append_nil])
theorem ev_l15 (n : Int) (h0 : 0 ≤ n) (h1 : n ≤ 999) : Ev (fun k => Q.spec_l15Dec.f k n) (B8 (Lib.itoa n)) := Ev.of (fun k => Q.spec_l15Dec.mono n k) (dec_f n h0 h1)
theorem l15Dec_any (n : Int) (w : World) (h0 : 0 ≤ n) (h1 : n ≤ 999) : Calls Tryd.prog 49 #[.int .i64 n] w (Ret w (.string (B8 (Lib.itoa n)))) :=
  Q.spec_l15Dec.calls 2000 n _ w (dec_f n h0 h1)
end Go.Proofs.YteeepenncddnjaaDoor
end
section
namespace Go.Proofs.YteeepenncddnjaaDoor
open Go.RowKit Go.Proofs.YteeepenncddnjaaDoorW.PrintWords Go.Proofs.YteeepenncddnjaaDoorW.PrintLast Go.Proofs.YteeepenncddnjaaDoorW.PrintMore
set_option linter.unusedVariables false
set_option linter.unusedSimpArgs false
def LeftAt (w : World) (g : Nat) (L : Int) : Prop := w.heap[g]? = some (.cells #[.int .i64 L] 3 (0, 0))
def OkPost (n : Nat) (x : Fm) (L : Int) (g : Nat) (w0 : World) (e : Ending) (w' : World) : Prop :=
  ∃ b, e = .returned (.bool b) ∧ (b = true ↔ IsOk n x ∧ (x.size : Int) ≤ L) ∧ Below w0.heap.size w0 w' ∧ (b = true → LeftAt w' g (L - x.size))
end Go.Proofs.YteeepenncddnjaaDoor
end
section
namespace Go.Proofs.YteeepenncddnjaaDoor
open Go.RowKit Go.Proofs.YteeepenncddnjaaDoorW.PrintWords Go.Proofs.YteeepenncddnjaaDoorW.PrintLast Go.Proofs.YteeepenncddnjaaDoorW.PrintMore
set_option linter.unusedVariables false
set_option linter.unusedSimpArgs false
/-- Only the blocks of S, and new ones, may have changed. -/
structure Mk (S : List Nat) (w w' : World) : Prop where
  b0 : Below 0 w w'
  keep : ∀ b, b < w.heap.size → b ∉ S → w'.heap[b]? = w.heap[b]?
theorem Mk.refl (S : List Nat) (w : World) : Mk S w w := ⟨Below.refl _ _, fun _ _ _ => rfl⟩
theorem Mk.trans {S : List Nat} {a b c : World} (h : Mk S a b) (k : Mk S b c) : Mk S a c :=
  ⟨h.b0.trans k.b0, fun j hj hs => (k.keep j (Nat.lt_of_lt_of_le hj h.b0.size) hs).trans (h.keep j hj hs)⟩
theorem Mk.more {S T : List Nat} {a b : World} (h : Mk S a b) (hs : ∀ j, j ∈ S → j ∈ T) : Mk T a b := ⟨h.b0, fun j hj ht => h.keep j hj (fun q => ht (hs j q))⟩
theorem Mk.set {S : List Nat} (w : World) {g : Nat} (hg : g ∈ S) (i : Nat) (u : Value) : Mk S w (w.setCell ⟨g, i, none⟩ u) :=
  ⟨(Below.refl 0 w).setCell (Nat.zero_le _) u, fun b _ hb => Below.heap_setCell _ _ _ _ (fun h => hb (h ▸ hg))⟩
theorem Mk.below {S : List Nat} {w w' : World} {B : Nat} (h : Mk S w w') (hB : B ≤ w.heap.size) (hs : ∀ b, b ∈ S → B ≤ b) : Below B w w' :=
  ⟨h.b0.os, h.b0.tape, h.b0.output, h.b0.size, fun k hk => h.keep k (Nat.lt_of_lt_of_le hk hB) (fun q => Nat.lt_irrefl _ (Nat.lt_of_lt_of_le hk (hs k q)))⟩
/-- The numbers k, k + 1, ..: n of them. -/
def markI (n : Nat) (k : Int) : List Int := (List.range n).map (fun i : Nat => k + (i : Int))
end Go.Proofs.YteeepenncddnjaaDoor
end
section
namespace Go.Proofs.YteeepenncddnjaaDoor
open Go.RowKit Go.Proofs.YteeepenncddnjaaDoorW.PrintWords Go.Proofs.YteeepenncddnjaaDoorW.PrintLast Go.Proofs.YteeepenncddnjaaDoorW.PrintMore
set_option linter.unusedVariables false
set_option linter.unusedSimpArgs false
theorem szs_len (l : List Fm) : l.length ≤ sizes l := by
  induction l with
  | nil => simp [sizes]
  | cons y r ih => simp only [sizes, List.length_cons, Fm.size_eq y]; omega
def scP (sc : List Int) (i : Nat) : List UInt8 := if i = 0 then [] else 123 :: Lib.join ((digs sc).take i) [44]
theorem scP_first {sc : List Int} (h : 0 < sc.length) : scP sc 1 = 123 :: Lib.itoa sc[0] := by
  rw [scP, if_neg (by omega), digs_take sc 0 h, List.take_zero, List.nil_append, Lib.join_one]
theorem scP_next {sc : List Int} {i : Nat} (h : i < sc.length) (h0 : i ≠ 0) : scP sc (i + 1) = scP sc i ++ (44 :: Lib.itoa sc[i]) := by
  rw [scP, if_neg (by omega), scP, if_neg h0, digs_take sc i h, join_snoc _ _ _ (take_ne _ _ (by rw [digs_len]; exact h) h0)]
  simp [List.append_assoc]
theorem scP_len {sc : List Int} (h : ScOk sc) (i : Nat) : (scP sc i).length ≤ 97 := by
  have a := join_len ((digs sc).take i) 44
  have b := lens_take (digs sc) i
  have c := lens_digs sc h
  have d := h.1
  unfold scP
  split
  · simp
  · simp only [List.length_cons]; omega
theorem scP_all {sc : List Int} (h : sc.length ≠ 0) : scP sc sc.length ++ [125] = scTx sc := by
  rw [scP, if_neg h, scTx, if_neg h, List.take_of_length_le (by rw [digs_len]; exact Nat.le_refl _)]
  rfl
def kdP (ks : List Fm) (i : Nat) : List UInt8 := 40 :: Lib.join ((txtL ks).take i) [32]
theorem kdP_first {ks : List Fm} (h : 0 < ks.length) : kdP ks 1 = kdP ks 0 ++ ks[0].txt := by
  rw [kdP, kdP, txtL_take ks 0 h, List.take_zero, List.nil_append, Lib.join_one, Lib.join_nil]
  rfl
theorem kdP_next {ks : List Fm} {i : Nat} (h : i < ks.length) (h0 : i ≠ 0) : kdP ks (i + 1) = kdP ks i ++ (32 :: ks[i].txt) := by
  rw [kdP, kdP, txtL_take ks i h, join_snoc _ _ _ (take_ne _ _ (by rw [txtL_len]; exact h) h0)]
  simp [List.append_assoc]
theorem kdP_len {n : Nat} {ks : List Fm} (h : ∀ k, k ∈ ks → IsOk n k) (i : Nat) : (kdP ks i).length ≤ 200 * sizes ks + 1 := by
  have a := join_len ((txtL ks).take i) 32
  have b := lens_take (txtL ks) i
  have c := lens_txt h
  simp only [kdP, List.length_cons]; omega
set_option maxHeartbeats 4000000 in
set_option maxRecDepth 100000 in
theorem l1Text_any : ∀ (n : Nat) (x : Fm) (A3 : Option Addr) (c3 : Nat) (A4 : Option Addr) (c4 : Nat) (w : World), FmIn w x A3 c3 A4 c4 → IsOk n x → x.size ≤ 400 →
    Calls Tryd.prog 40 #[.agg #[.int .i64 x.f0, .string x.f1, .int .i64 x.f2, .slice A3 x.f3.length c3, .slice A4 x.f4.length c4]] w (Ret w (.string (B8 x.txt))) := by
  intro n
  induction n with
  | zero => intro x A3 c3 A4 c4 w hin hok hs; exact absurd hok (fun h => h)
  | succ n ih =>
    intro x A3 c3 A4 c4 w hin hok hs
    have hbx := below_new w (.cells #[.int .i64 x.f0, .string x.f1, .int .i64 x.f2, .slice A3 x.f3.length c3, .slice A4 x.f4.length c4] 26)
    have hkb := blk_new w (.cells #[.int .i64 x.f0, .string x.f1, .int .i64 x.f2, .slice A3 x.f3.length c3, .slice A4 x.f4.length c4] 26)
    obtain ⟨p0, p1, p2, p3, p4⟩ := fm_cells hkb
    have HI := Lib.hid hin
    have HX := Lib.hid (And.intro hbx hkb)
    by_cases k2 : x.f0 = 2
    · have t2 : (x.f0 == 2) = true := beq_iff_eq.mpr k2
      have q := (isOk2 k2).1 hok
      have HT := Lib.hid (show x.txt = Lib.itoa x.f2 by rw [Fm.txt_eq, if_pos k2])
      have HC := Lib.hid (fun W => l15Dec_any x.f2 W q.2.1 q.2.2.1)
      clear hin hok hs hbx hkb k2 q ih
      go_enter Tryd.func40, Tryd.ntmps40
      go_wp2_with fail
      refine (HC.out _).mono ?_
      rintro e w1 ⟨rfl, hb⟩
      have HB := Lib.hid (below_step HX.out.1 hb)
      clear hb p0 p1 p2 p3 p4
      go_wp2_with fail
      go_ret
      exact ⟨by rw [HT.out]; rfl, HB.out⟩
    have t2 : (x.f0 == 2) = false := beq_eq_false_iff_ne.mpr k2
    by_cases k1 : x.f0 = 1
    · have t1 : (x.f0 == 1) = true := beq_iff_eq.mpr k1
      have q := (isOk1 k1).1 hok
      have hm3 : x.f3.length ≤ 24 := q.2.2.1.1
      have HT := Lib.hid (show x.txt = nameT x.f1 x.f3 by rw [Fm.txt_eq, if_neg k2, if_pos k1])
      have HS := Lib.hid q.2.2.1
      have hn := nmOk_sz12 q.1
      clear hin hok hs hbx hkb k1 k2 q ih
      go_enter Tryd.func40, Tryd.ntmps40
      go_wp2_with fail
      clear p0 p1 p2 p3 p4
      go_loopg [3, 4] x.f3.length (fun kq v3 v4 w' => ∃ (i : Nat) (acc : ByteArray), i ≤ x.f3.length ∧ x.f3.length - i ≤ kq ∧ v4 = .int .i64 i ∧ v3 = .string acc ∧ acc.size ≤ 200 ∧ Aside0 (acc = B8 (x.f1.data.toList ++ scP x.f3 i)) ∧ Aside0 (Below w.heap.size w w' ∧ w'.heap[w.heap.size]? = some (.cells #[.int .i64 x.f0, .string x.f1, .int .i64 x.f2, .slice A3 x.f3.length c3, .slice A4 x.f4.length c4] 26 (0, 0))))
      case atStart => exact ⟨0, _, Nat.zero_le _, by omega, rfl, rfl, by omega, ⟨by rw [scP, if_pos rfl, List.append_nil, B8_of]⟩, ⟨HX.out⟩⟩
      case round =>
        obtain ⟨i, acc, hi, hg, rfl, rfl, ha, HA, HW⟩ := hrel
        obtain ⟨p0, p1, p2, p3, p4⟩ := fm_cells HW.out.2
        by_cases hlt : i < x.f3.length
        · obtain ⟨ad, e, hcell⟩ := int_at (Kd.C_below HI.out.g3 HW.out.1) i hlt
          subst e
          have hv := HS.out.2 i hlt
          have HC := Lib.hid (fun W => l15Dec_any x.f3[i] W (by omega) (by omega))
          have hd := itoa_len x.f3[i] (by omega) (by omega)
          have hd' : (B8 (Lib.itoa x.f3[i])).size ≤ 3 := by rw [B8_size]; exact hd
          clear hd hv
          by_cases h0 : i = 0
          · have HE := Lib.hid (show acc ++ ⟨#[123]⟩ ++ B8 (Lib.itoa x.f3[i]) = B8 (x.f1.data.toList ++ scP x.f3 (i + 1)) by subst h0; rw [HA.out, scP_first hlt, scP, if_pos rfl, List.append_nil, show (⟨#[123]⟩ : ByteArray) = B8 [123] from rfl, B8_append, B8_append, List.append_assoc]; rfl)
            have HL := Lib.hid (show (x.f1.data.toList ++ scP x.f3 (i + 1)).length ≤ 200 by have := scP_len HS.out (i + 1); have e : x.f1.data.toList.length = x.f1.size := Array.length_toList; rw [List.length_append]; omega)
            have ti : ((i : Int) == 0) = true := by rw [beq_iff_eq]; omega
            have ti2 : (i == 0) = true := by rw [beq_iff_eq]; omega
            clear h0
            go_wp2_with fail
            refine (HC.out _).mono ?_
            rintro e w1 ⟨rfl, hb⟩
            generalize B8 (Lib.itoa x.f3[i]) = t at hd' HE HC ⊢
            have HB := Lib.hid (And.intro (below_step HW.out.1 hb) (blk_below HW.out.2 hb))
            clear hb p0 p1 p2 p3 p4 hcell
            go_wp2_with fail
            go_roundg (x.f3.length - (i + 1))
            case measure => omega
            case rel => exact ⟨i + 1, _, by omega, Nat.le_refl _, by go_num, rfl, by rw [HE.out, B8_size]; exact HL.out, ⟨HE.out⟩, ⟨HB.out⟩⟩
          · have HE := Lib.hid (show acc ++ ⟨#[44]⟩ ++ B8 (Lib.itoa x.f3[i]) = B8 (x.f1.data.toList ++ scP x.f3 (i + 1)) by rw [HA.out, scP_next hlt h0, show (⟨#[44]⟩ : ByteArray) = B8 [44] from rfl, B8_append, B8_append, ← List.append_assoc, List.append_assoc (_ ++ _)]; rfl)
            have HL := Lib.hid (show (x.f1.data.toList ++ scP x.f3 (i + 1)).length ≤ 200 by have := scP_len HS.out (i + 1); have e : x.f1.data.toList.length = x.f1.size := Array.length_toList; rw [List.length_append]; omega)
            have ti : ((i : Int) == 0) = false := by rw [beq_eq_false_iff_ne]; omega
            have ti2 : (i == 0) = false := by rw [beq_eq_false_iff_ne]; omega
            clear h0
            go_wp2_with fail
            refine (HC.out _).mono ?_
            rintro e w1 ⟨rfl, hb⟩
            generalize B8 (Lib.itoa x.f3[i]) = t at hd' HE HC ⊢
            have HB := Lib.hid (And.intro (below_step HW.out.1 hb) (blk_below HW.out.2 hb))
            clear hb p0 p1 p2 p3 p4 hcell
            go_wp2_with fail
            go_roundg (x.f3.length - (i + 1))
            case measure => omega
            case rel => exact ⟨i + 1, _, by omega, Nat.le_refl _, by go_num, rfl, by rw [HE.out, B8_size]; exact HL.out, ⟨HE.out⟩, ⟨HB.out⟩⟩
        · obtain rfl : i = x.f3.length := by omega
          by_cases hz : x.f3.length = 0
          · have HE := Lib.hid (show acc = B8 x.txt by rw [HA.out, HT.out, nameT, scTx, if_pos hz, scP, if_pos hz])
            have tz : decide ((x.f3.length : Int) > 0) = false := decide_eq_false (by omega)
            have tz2 : decide (0 < x.f3.length) = false := decide_eq_false (by omega)
            have HZ := Lib.hid hz
            clear hz
            go_wp2_with fail
            go_ret
            exact ⟨by rw [← HE.out]; rfl, HW.out.1⟩
          · have HE := Lib.hid (show acc ++ ⟨#[125]⟩ = B8 x.txt by rw [HA.out, HT.out, nameT, show (⟨#[125]⟩ : ByteArray) = B8 [125] from rfl, B8_append, List.append_assoc, scP_all hz])
            have tz : decide ((x.f3.length : Int) > 0) = true := decide_eq_true (by omega)
            have tz2 : decide (0 < x.f3.length) = true := decide_eq_true (by omega)
            have HZ := Lib.hid hz
            clear hz
            go_wp2_with fail
            go_ret
            exact ⟨by rw [← HE.out]; rfl, HW.out.1⟩
    have t1 : (x.f0 == 1) = false := beq_eq_false_iff_ne.mpr k1
    have q := (isOk3 k1 k2).1 hok
    have hm4 : x.f4.length ≤ 400 := by have := szs_len x.f4; rw [Fm.size_eq] at hs; omega
    have HT := Lib.hid (show x.txt = 40 :: (Lib.join (txtL x.f4) [32] ++ [41]) by rw [Fm.txt_eq, if_neg k2, if_neg k1])
    have HK := Lib.hid q.2.2.2.2
    have HS := Lib.hid (show sizes x.f4 ≤ 399 by rw [Fm.size_eq] at hs; omega)
    have IH := Lib.hid ih
    clear hin hok hs hbx hkb k1 k2 q ih
    go_enter Tryd.func40, Tryd.ntmps40
    go_wp2_with fail
    clear p0 p1 p2 p3 p4
    go_loopg [6, 7] x.f4.length (fun kq v6 v7 w' => ∃ (i : Nat) (acc : ByteArray), i ≤ x.f4.length ∧ x.f4.length - i ≤ kq ∧ v7 = .int .i64 i ∧ v6 = .string acc ∧ acc.size ≤ 80000 ∧ Aside0 (acc = B8 (kdP x.f4 i)) ∧ Aside0 (Below w.heap.size w w' ∧ w'.heap[w.heap.size]? = some (.cells #[.int .i64 x.f0, .string x.f1, .int .i64 x.f2, .slice A3 x.f3.length c3, .slice A4 x.f4.length c4] 26 (0, 0))))
    case atStart => exact ⟨0, _, Nat.zero_le _, by omega, rfl, rfl, by show (ByteArray.mk #[40]).size ≤ 80000; have : (ByteArray.mk #[40]).size = 1 := rfl; omega, ⟨rfl⟩, ⟨HX.out⟩⟩
    case round =>
      obtain ⟨i, acc, hi, hg, rfl, rfl, ha, HA, HW⟩ := hrel
      obtain ⟨p0, p1, p2, p3, p4⟩ := fm_cells HW.out.2
      by_cases hlt : i < x.f4.length
      · obtain ⟨ad, G3, m3, G4, m4, e, g0, g1, g2, g3, g4, hk⟩ := kid_at HI.out.g4 i hlt
        subst e
        replace g0 := ck0 HW.out.1 g0
        replace g1 := ck0 HW.out.1 g1
        replace g2 := ck0 HW.out.1 g2
        replace g3 := ck0 HW.out.1 g3
        replace g4 := ck0 HW.out.1 g4
        have hko := HK.out _ (List.getElem_mem hlt)
        have hsz : x.f4[i].size ≤ 399 := by have := sizes_mem (List.getElem_mem hlt); have := HS.out; omega
        have hd := txt_len n _ hko
        have hd' : (B8 x.f4[i].txt).size ≤ 80000 := by rw [B8_size]; omega
        have HC := Lib.hid (IH.out x.f4[i] G3 m3 G4 m4 wr (hk.below HW.out.1) hko (by omega))
        clear hd hk hko hsz
        by_cases h0 : i = 0
        · have HE := Lib.hid (show acc ++ B8 x.f4[i].txt = B8 (kdP x.f4 (i + 1)) by subst h0; rw [HA.out, kdP_first hlt, B8_append])
          have HL := Lib.hid (show (kdP x.f4 (i + 1)).length ≤ 80000 by have := kdP_len HK.out (i + 1); have := HS.out; omega)
          have ti : decide ((i : Int) > 0) = false := decide_eq_false (by omega)
          have ti2 : decide (0 < i) = false := decide_eq_false (by omega)
          clear h0
          go_wp2_with fail
          refine HC.out.mono ?_
          rintro e w1 ⟨rfl, hb⟩
          generalize B8 x.f4[i].txt = t at hd' HE HC ⊢
          have HB := Lib.hid (And.intro (below_step HW.out.1 hb) (blk_below HW.out.2 hb))
          clear hb p0 p1 p2 p3 p4 g0 g1 g2 g3 g4
          go_wp2_with fail
          go_roundg (x.f4.length - (i + 1))
          case measure => omega
          case rel => exact ⟨i + 1, _, by omega, Nat.le_refl _, by go_num, rfl, by rw [HE.out, B8_size]; exact HL.out, ⟨HE.out⟩, ⟨HB.out⟩⟩
        · have HE := Lib.hid (show acc ++ ⟨#[32]⟩ ++ B8 x.f4[i].txt = B8 (kdP x.f4 (i + 1)) by rw [HA.out, kdP_next hlt h0, show (⟨#[32]⟩ : ByteArray) = B8 [32] from rfl, B8_append, B8_append, List.append_assoc]; rfl)
          have HL := Lib.hid (show (kdP x.f4 (i + 1)).length ≤ 80000 by have := kdP_len HK.out (i + 1); have := HS.out; omega)
          have ti : decide ((i : Int) > 0) = true := decide_eq_true (by omega)
          have ti2 : decide (0 < i) = true := decide_eq_true (by omega)
          clear h0
          go_wp2_with fail
          refine HC.out.mono ?_
          rintro e w1 ⟨rfl, hb⟩
          generalize B8 x.f4[i].txt = t at hd' HE HC ⊢
          have HB := Lib.hid (And.intro (below_step HW.out.1 hb) (blk_below HW.out.2 hb))
          clear hb p0 p1 p2 p3 p4 g0 g1 g2 g3 g4
          go_wp2_with fail
          go_roundg (x.f4.length - (i + 1))
          case measure => omega
          case rel => exact ⟨i + 1, _, by omega, Nat.le_refl _, by go_num, rfl, by rw [HE.out, B8_size]; exact HL.out, ⟨HE.out⟩, ⟨HB.out⟩⟩
      · obtain rfl : i = x.f4.length := by omega
        have HE := Lib.hid (show acc ++ ⟨#[41]⟩ = B8 x.txt by rw [HA.out, HT.out, kdP, List.take_of_length_le (by rw [txtL_len]; exact Nat.le_refl _), show (⟨#[41]⟩ : ByteArray) = B8 [41] from rfl, B8_append]; rfl)
        go_wp2_with fail
        go_ret
        exact ⟨by rw [← HE.out]; rfl, HW.out.1⟩
end Go.Proofs.YteeepenncddnjaaDoor
end
section
namespace Go.Proofs.YteeepenncddnjaaDoor
open Go.RowKit Go.Proofs.YteeepenncddnjaaDoorW.PrintWords Go.Proofs.YteeepenncddnjaaDoorW.PrintLast Go.Proofs.YteeepenncddnjaaDoorW.PrintMore
set_option linter.unusedVariables false
set_option linter.unusedSimpArgs false

noncomputable def eqB {α : Type} (x y : α) : Bool := @decide (x = y) (Classical.propDecidable _)
theorem toList_inj {a b : ByteArray} (h : a.toList = b.toList) : a = b := by
  have e : ∀ s : ByteArray, s.toList = s.data.toList := fun s => by rw [ByteArray.toList_eq]
  rw [e, e] at h
  cases a; cases b
  simp only at h
  rw [Array.toList_inj.1 h]
theorem Fm.ext' {x y : Fm} (h1 : x.f0 = y.f0) (h2 : x.f1 = y.f1) (h3 : x.f2 = y.f2) (h4 : x.f3 = y.f3) (h5 : x.f4 = y.f4) : x = y := by
  cases x; cases y; simp_all
def EqForm (x : Fm) : Prop := ∀ (y : Fm) (A3 : Option Addr) (c3 : Nat) (A4 : Option Addr) (c4 : Nat) (B3 : Option Addr) (d3 : Nat) (B4 : Option Addr) (d4 : Nat) (w : World), FmIn w x A3 c3 A4 c4 → FmIn w y B3 d3 B4 d4 →
    Calls Tryd.prog 24 #[.agg #[.int .i64 x.f0, .string x.f1, .int .i64 x.f2, .slice A3 x.f3.length c3, .slice A4 x.f4.length c4], .agg #[.int .i64 y.f0, .string y.f1, .int .i64 y.f2, .slice B3 y.f3.length d3, .slice B4 y.f4.length d4]] w (Ret w (.bool (eqB x y)))
end Go.Proofs.YteeepenncddnjaaDoor
end
section
namespace Go.Proofs.YteeepenncddnjaaDoor
open Go.RowKit Go.Proofs.YteeepenncddnjaaDoorW.PrintWords Go.Proofs.YteeepenncddnjaaDoorW.PrintLast Go.Proofs.YteeepenncddnjaaDoorW.PrintMore
set_option linter.unusedVariables false
set_option linter.unusedSimpArgs false

set_option maxHeartbeats 1000000 in
theorem l1Ints_any (xs ys : List Int) (A B : Option Addr) (c d : Nat) (w : World) (hr : kI.C w A xs.length xs) (hc : xs.length ≤ c) (hr2 : kI.C w B ys.length ys) (hc2 : ys.length ≤ d) :
    Calls Tryd.prog 35 #[.slice A xs.length c, .slice B ys.length d] w (Ret w (.bool (decide (xs = ys)))) := by
  have hmax := hr.2.1
  by_cases hl : xs.length = ys.length
  · have hl1 : ((xs.length : Int) == (ys.length : Int)) = true := by simp [hl]
    have hl2 : ((xs.length : Int) != (ys.length : Int)) = false := by simp [hl]
    have hl3 : (xs.length == ys.length) = true := by simp [hl]
    have hl4 : (xs.length != ys.length) = false := by simp [hl]
    have HL := Lib.hid hl
    clear hl
    go_enter Tryd.func35, Tryd.ntmps35
    go_wp2_with fail
    go_loopg [5] xs.length (fun kq v5 w' => ∃ i : Nat, i ≤ xs.length ∧ xs.length - i ≤ kq ∧ v5 = .int .i64 i ∧ Aside0 (∀ j (h : j < xs.length) (h2 : j < ys.length), j < i → xs[j] = ys[j]) ∧ Aside0 (Below w.heap.size w w'))
    case atStart => exact ⟨0, Nat.zero_le _, by omega, rfl, ⟨fun j _ _ h => absurd h (by omega)⟩, ⟨Below.refl _ _⟩⟩
    case round =>
      obtain ⟨i, hi, hg, rfl, HN, HW⟩ := hrel
      by_cases hlt : i < xs.length
      · have hlt2 : i < ys.length := by have := HL.out; omega
        obtain ⟨ad, e, hcell⟩ := int_at (Kd.C_below hr HW.out) i hlt
        subst e
        obtain ⟨ad2, e2, hcell2⟩ := int_at (Kd.C_below hr2 HW.out) i hlt2
        subst e2
        by_cases he : xs[i] = ys[i]
        · have hb1 : (xs[i] == ys[i]) = true := by simpa using he
          have hb2 : (xs[i] != ys[i]) = false := by simpa using he
          have HE := Lib.hid he
          clear he
          go_wp2_with fail
          go_quiet (fail)
          go_wp2_with fail
          go_roundg (xs.length - (i + 1))
          case measure => omega
          case rel =>
            refine ⟨i + 1, by omega, Nat.le_refl _, by go_num, ⟨fun j hj hj2 hji => ?_⟩, ⟨pw_below_drewN HW.out _⟩⟩
            rcases Nat.lt_or_ge j i with h | h
            · exact HN.out j hj hj2 h
            · obtain rfl : j = i := by omega
              exact HE.out
        · have hb1 : (xs[i] == ys[i]) = false := by simpa using he
          have hb2 : (xs[i] != ys[i]) = true := by simpa using he
          have HE := Lib.hid he
          clear he
          go_wp2_with fail
          go_quiet (fail)
          go_wp2_with fail
          go_ret
          refine ⟨ret_b (decide_eq_false (fun h => HE.out ?_)).symm, pw_below_drewN HW.out _⟩
          subst h
          rfl
      · obtain rfl : i = xs.length := by omega
        go_wp2_with fail
        go_ret
        refine ⟨ret_b (decide_eq_true (List.ext_getElem HL.out (fun j hj hj2 => HN.out j hj hj2 hj))).symm, HW.out⟩
  · have hl1 : ((xs.length : Int) == (ys.length : Int)) = false := by simp; omega
    have hl2 : ((xs.length : Int) != (ys.length : Int)) = true := by simp; omega
    have hl3 : (xs.length == ys.length) = false := by simp [hl]
    have hl4 : (xs.length != ys.length) = true := by simp [hl]
    have HL := Lib.hid hl
    clear hl
    go_enter Tryd.func35, Tryd.ntmps35
    go_wp2_with fail
    go_ret
    exact ⟨ret_b (decide_eq_false (fun h => HL.out (by rw [h]))).symm, Below.refl _ _⟩
set_option maxHeartbeats 1000000 in
theorem equalI_any (xs ys : List Int) (A B : Option Addr) (c d : Nat) (w : World) (hr : kI.C w A xs.length xs) (hc : xs.length ≤ c) (hr2 : kI.C w B ys.length ys) (hc2 : ys.length ≤ d) :
    Calls Tryd.prog 33 #[.slice A xs.length c, .slice B ys.length d] w (Ret w (.bool (decide (xs = ys)))) := by
  have hmax := hr.2.1
  by_cases hl : xs.length = ys.length
  · have hl1 : ((xs.length : Int) == (ys.length : Int)) = true := by simp [hl]
    have hl2 : ((xs.length : Int) != (ys.length : Int)) = false := by simp [hl]
    have hl3 : (xs.length == ys.length) = true := by simp [hl]
    have hl4 : (xs.length != ys.length) = false := by simp [hl]
    have HL := Lib.hid hl
    clear hl
    go_enter Tryd.func33, Tryd.ntmps33
    go_wp2_with fail
    go_loopg [5, 13] xs.length (fun kq v5 v13 w' => ∃ i : Nat, i ≤ xs.length ∧ xs.length - i ≤ kq ∧ v13 = .int .i64 i ∧ Aside0 (∀ j (h : j < xs.length) (h2 : j < ys.length), j < i → xs[j] = ys[j]) ∧ Aside0 (Below w.heap.size w w'))
    case atStart => exact ⟨0, Nat.zero_le _, by omega, rfl, ⟨fun j _ _ h => absurd h (by omega)⟩, ⟨Below.refl _ _⟩⟩
    case round =>
      obtain ⟨i, hi, hg, rfl, HN, HW⟩ := hrel
      by_cases hlt : i < xs.length
      · have hlt2 : i < ys.length := by have := HL.out; omega
        obtain ⟨ad, e, hcell⟩ := int_at (Kd.C_below hr HW.out) i hlt
        subst e
        obtain ⟨ad2, e2, hcell2⟩ := int_at (Kd.C_below hr2 HW.out) i hlt2
        subst e2
        by_cases he : xs[i] = ys[i]
        · have hb1 : (xs[i] == ys[i]) = true := by simpa using he
          have hb2 : (xs[i] != ys[i]) = false := by simpa using he
          have HE := Lib.hid he
          clear he
          go_wp2_with fail
          go_quiet (fail)
          go_wp2_with fail
          go_roundg (xs.length - (i + 1))
          case measure => omega
          case rel =>
            refine ⟨i + 1, by omega, Nat.le_refl _, by go_num, ⟨fun j hj hj2 hji => ?_⟩, ⟨pw_below_drewN HW.out _⟩⟩
            rcases Nat.lt_or_ge j i with h | h
            · exact HN.out j hj hj2 h
            · obtain rfl : j = i := by omega
              exact HE.out
        · have hb1 : (xs[i] == ys[i]) = false := by simpa using he
          have hb2 : (xs[i] != ys[i]) = true := by simpa using he
          have HE := Lib.hid he
          clear he
          go_wp2_with fail
          go_quiet (fail)
          go_wp2_with fail
          go_ret
          refine ⟨ret_b (decide_eq_false (fun h => HE.out ?_)).symm, pw_below_drewN HW.out _⟩
          subst h
          rfl
      · obtain rfl : i = xs.length := by omega
        go_wp2_with fail
        go_ret
        refine ⟨ret_b (decide_eq_true (List.ext_getElem HL.out (fun j hj hj2 => HN.out j hj hj2 hj))).symm, HW.out⟩
  · have hl1 : ((xs.length : Int) == (ys.length : Int)) = false := by simp; omega
    have hl2 : ((xs.length : Int) != (ys.length : Int)) = true := by simp; omega
    have hl3 : (xs.length == ys.length) = false := by simp [hl]
    have hl4 : (xs.length != ys.length) = true := by simp [hl]
    have HL := Lib.hid hl
    clear hl
    go_enter Tryd.func33, Tryd.ntmps33
    go_wp2_with fail
    go_ret
    exact ⟨ret_b (decide_eq_false (fun h => HL.out (by rw [h]))).symm, Below.refl _ _⟩
def SpecSame (x : Fm) : Prop := ∀ (y : Fm) (A3 : Option Addr) (c3 : Nat) (A4 : Option Addr) (c4 : Nat) (B3 : Option Addr) (d3 : Nat) (B4 : Option Addr) (d4 : Nat) (w : World), FmIn w x A3 c3 A4 c4 → FmIn w y B3 d3 B4 d4 →
    Calls Tryd.prog 10 #[.agg #[.int .i64 x.f0, .string x.f1, .int .i64 x.f2, .slice A3 x.f3.length c3, .slice A4 x.f4.length c4], .agg #[.int .i64 y.f0, .string y.f1, .int .i64 y.f2, .slice B3 y.f3.length d3, .slice B4 y.f4.length d4]] w (Ret w (.bool (eqB x y)))
def ImplSame (x : Fm) : Prop := ∀ (y : Fm) (A3 : Option Addr) (c3 : Nat) (A4 : Option Addr) (c4 : Nat) (B3 : Option Addr) (d3 : Nat) (B4 : Option Addr) (d4 : Nat) (w : World), FmIn w x A3 c3 A4 c4 → FmIn w y B3 d3 B4 d4 →
    Calls Tryd.prog 9 #[.agg #[.int .i64 x.f0, .string x.f1, .int .i64 x.f2, .slice A3 x.f3.length c3, .slice A4 x.f4.length c4], .agg #[.int .i64 y.f0, .string y.f1, .int .i64 y.f2, .slice B3 y.f3.length d3, .slice B4 y.f4.length d4]] w (Ret w (.bool (eqB x y)))
end Go.Proofs.YteeepenncddnjaaDoor
end
section
namespace Go.Proofs.YteeepenncddnjaaDoor
open Go.RowKit Go.Proofs.YteeepenncddnjaaDoorW.PrintWords Go.Proofs.YteeepenncddnjaaDoorW.PrintLast Go.Proofs.YteeepenncddnjaaDoorW.PrintMore
set_option linter.unusedVariables false
set_option linter.unusedSimpArgs false
abbrev kS : Kd ByteArray := Kd.string
instance decMemB (n : ByteArray) (xs : List ByteArray) : Decidable (n ∈ xs) := @List.instDecidableMemOfLawfulBEq ByteArray instBEqOfDecidableEq _ n xs
end Go.Proofs.YteeepenncddnjaaDoor
end
section
namespace Go.Proofs.YteeepenncddnjaaDoor
open Go.RowKit Go.Proofs.YteeepenncddnjaaDoorW.PrintWords Go.Proofs.YteeepenncddnjaaDoorW.PrintLast Go.Proofs.YteeepenncddnjaaDoorW.PrintMore
set_option linter.unusedVariables false
set_option linter.unusedSimpArgs false
mutual
def foldF {σ : Type} (step : σ → Fm → σ) : Fm → σ → σ
  | ⟨a, b, c, d, ks⟩, s => foldFs step ks (step s ⟨a, b, c, d, ks⟩)
def foldFs {σ : Type} (step : σ → Fm → σ) : List Fm → σ → σ
  | [], s => s
  | k :: ks, s => foldFs step ks (foldF step k s)
end
mutual
def costF (cost : Fm → Nat) : Fm → Nat
  | ⟨a, b, c, d, ks⟩ => cost ⟨a, b, c, d, ks⟩ + costFs cost ks
def costFs (cost : Fm → Nat) : List Fm → Nat
  | [] => 0
  | k :: ks => costF cost k + costFs cost ks
end
/-- What a call leaves of a state: it lies in S', which is S and new blocks. -/
def StPost {σ : Type} (St : World → List Nat → σ → Prop) (S : List Nat) (s : σ) (w : World) (e : Ending) (w' : World) : Prop :=
  e = .returned (.tuple #[]) ∧ ∃ S', St w' S' s ∧ Mk S w w' ∧ ∀ b, b ∈ S' → b ∈ S ∨ w.heap.size ≤ b
end Go.Proofs.YteeepenncddnjaaDoor
end
section
namespace Go.Proofs.YteeepenncddnjaaDoor
open Go.RowKit Go.Proofs.YteeepenncddnjaaDoorW.PrintWords Go.Proofs.YteeepenncddnjaaDoorW.PrintLast Go.Proofs.YteeepenncddnjaaDoorW.PrintMore
set_option linter.unusedVariables false
set_option linter.unusedSimpArgs false
/-- A row of numbers in new memory is handed back. -/
def RetI (w : World) (xs : List Int) (e : Ending) (w' : World) : Prop := ∃ v, e = .returned v ∧ kI.R 3 w' w.heap.size (fun _ => True) v xs ∧ Below w.heap.size w w'
set_option maxHeartbeats 1000000 in
theorem cloneI_any (xs : List Int) (A : Option Addr) (c : Nat) (w : World) (hr : kI.C w A xs.length xs) (hc : xs.length ≤ c) (hs : xs.length ≤ 17592186044416) :
    Calls Tryd.prog 70 #[.slice A xs.length c] w (RetI w xs) := by
  have hmax := hr.2.1
  cases A with
  | none =>
    have hz : xs = [] := by
      rcases hr.2.2 with h
      by_cases hp : 0 < xs.length
      · obtain ⟨ad, he, _⟩ := h hp
        cases he
      · exact List.eq_nil_of_length_eq_zero (by omega)
    subst hz
    have hq := fun w => Go.run_eql_slice_nil (P := Tryd.prog) w 23 3 none 0 c Tryd.underlying23
    simp only [Option.isNone_none] at hq
    clear hr hmax
    go_enter Tryd.func70, Tryd.ntmps70
    go_wp2_with fail
    go_ret
    exact ⟨_, rfl, Kd.R_nil _ _ _ _ _, Below.refl _ _⟩
  | some ad =>
    have hq := fun w => Go.run_eql_slice_nil (P := Tryd.prog) w 23 3 (some ad) xs.length c Tryd.underlying23
    simp only [Option.isNone_some] at hq
    have HR := Aside0.mk hr
    clear hr
    go_enter Tryd.func70, Tryd.ntmps70
    go_wp2_with (first | ((with_reducible refine gate_dst (N := 5) rfl ?_); refine Kd.R_lit (Kd.int .i64) _ 3 ?hg (N := 5) ?hd (xs := ([] : List Int)) (inner := []) (ok := fun _ => True) (okp := fun _ => True) ?hr ?hp (fun _ hk => hk) trivial (Below.refl _ _) (Nat.le_refl _) (by simp) ?_; (case hd => rfl); (case hg => rfl); (case hr => first | (go_simp; done) | (go_simp; rfl)); (case hp => exact (Reps.none _ _)); intro v0 w0 ho0 hb0 hg0 hn0; have HO := Aside0.mk ho0; have HB := Aside0.mk hb0; clear ho0 hb0 hg0 hn0) | ((with_reducible refine gate_dst (N := 7) rfl ?_); refine Kd.R_append_row (Value.int .i64) (0 : Int) (w0 := w) w.heap.size rfl (.tmp 5) (.tmp 6) 23 3 (.int .i64 0) 8 rfl Tryd.underlying23 infoI rfl (by decide) v0 [] xs (some ad) xs.length c (fun _ => True) rfl rfl (fun _ _ => trivial) HO.out (Kd.C_below HR.out HB.out) HB.out HB.out.size (by simp; omega) ?_; intro v1 w1 ho1 hb1 hg1 hn1; have HO1 := Aside0.mk ho1; have HB1 := Aside0.mk hb1; clear ho1 hb1 hg1 hn1))
    go_ret
    exact ⟨_, rfl, (by have := HO1.out; rw [List.nil_append] at this; exact this), HB1.out⟩
end Go.Proofs.YteeepenncddnjaaDoor
end
section
namespace Go.Proofs.YteeepenncddnjaaDoor
open Go.RowKit Go.Proofs.YteeepenncddnjaaDoorW.PrintWords Go.Proofs.YteeepenncddnjaaDoorW.PrintLast Go.Proofs.YteeepenncddnjaaDoorW.PrintMore
set_option linter.unusedVariables false
set_option linter.unusedSimpArgs false
theorem Mk.setCells {S : List Nat} {g : Nat} (hg : g ∈ S) : ∀ (vs : List Value) (o : Nat) (w : World), Mk S w (w.setCells g o vs)
  | [], _, w => Mk.refl S w
  | u :: r, o, w => by
    rw [World.setCells]
    exact (Mk.set w hg o u).trans (Mk.setCells hg r (o + 1) _)
end Go.Proofs.YteeepenncddnjaaDoor
end
section
namespace Go.Proofs.YteeepenncddnjaaDoor
open Go.RowKit Go.Proofs.YteeepenncddnjaaDoorW.PrintWords Go.Proofs.YteeepenncddnjaaDoorW.PrintLast Go.Proofs.YteeepenncddnjaaDoorW.PrintMore
set_option linter.unusedVariables false
/-- Number, captured variables, the world in which these lie, what it computes, and that it does. -/
structure Fv where
  g : Nat
  lb : Array Value
  w0 : World
  f : List Int → Option (List Int)
  eg : ∀ args w, (callFunc g args).run Tryd.prog w = .ok (.enter g args) w
  ok : ∀ (P1_ : Nat → Prop) (u : Value) (l r : List Int) (wb w : World), Below wb.heap.size wb w → kI.R 3 w wb.heap.size P1_ u l → Below w0.heap.size w0 wb → f l = some r →
    Calls Tryd.prog g (#[u] ++ lb) w fun e w' => ∃ v0_ : Value, e = .returned v0_ ∧ kI.R 3 w' wb.heap.size (fun k_ => P1_ k_ ∨ w.heap.size ≤ k_) v0_ r ∧ Below wb.heap.size wb w' ∧ Kept w w' (fun k_ => P1_ k_)
end Go.Proofs.YteeepenncddnjaaDoor
namespace Go.Proofs.YteeepenncddnjaaDoor.Q
open Go.RowKit Go.Proofs.YteeepenncddnjaaDoorW.PrintWords Go.Proofs.YteeepenncddnjaaDoorW.PrintLast Go.Proofs.YteeepenncddnjaaDoorW.PrintMore
set_option linter.unusedVariables false
def chg.f (a0 : Fv) (l1 : List Int) : Option (List Int) := a0.f l1
theorem chg.calls (a0 : Fv) (P1_ : Nat → Prop) (u9000_ : Value) (l1 : List Int) (r : List Int) (w0 w : World) (hB : Below w0.heap.size w0 w) (ho1 : Kd.R (Kd.int .i64) 3 w w0.heap.size P1_ u9000_ l1) (hw0 : Below a0.w0.heap.size a0.w0 w0) (h : chg.f a0 l1 = some r) :
    Calls Tryd.prog a0.g (#[u9000_] ++ a0.lb) w fun e w' => ∃ v0_ : Value, e = .returned v0_ ∧ Kd.R (Kd.int .i64) 3 w' w0.heap.size (fun k_ => (P1_ k_ ∨ w.heap.size ≤ k_)) v0_ r ∧ Below w0.heap.size w0 w' ∧ Kept w w' (fun k_ => P1_ k_) :=
  a0.ok P1_ u9000_ l1 r w0 w hB ho1 hw0 h
section
variable {P : Program} {ops : Array Oper} {Q : Exit → Act → World → Prop}
end
end Go.Proofs.YteeepenncddnjaaDoor.Q
end
section
namespace Go.Proofs.YteeepenncddnjaaDoor
open Go.RowKit Go.Proofs.YteeepenncddnjaaDoorW.PrintWords Go.Proofs.YteeepenncddnjaaDoorW.PrintLast Go.Proofs.YteeepenncddnjaaDoorW.PrintMore
set_option linter.unusedVariables false
set_option linter.unusedSimpArgs false
def putAt (xs : List Int) (k : Nat) (x : Int) : List Int := xs.take k ++ x :: xs.drop k
/-- A set with a number. -/
def putS (l : List Int) (x : Int) : List Int := if x ∈ l then l else putAt l (l.countP (· < x)) x
end Go.Proofs.YteeepenncddnjaaDoor
end
section
namespace Go.Proofs.YteeepenncddnjaaDoor
open Go.RowKit Go.Proofs.YteeepenncddnjaaDoorW.PrintWords Go.Proofs.YteeepenncddnjaaDoorW.PrintLast Go.Proofs.YteeepenncddnjaaDoorW.PrintMore
set_option linter.unusedVariables false
set_option linter.unusedSimpArgs false

theorem infoF : (Tryd.prog.info? 26).map (fun i => (i.zero, i.size, i.bytes)) = some (some (.agg #[(.int .i64 0), (.string ⟨#[]⟩), (.int .i64 0), (.slice none 0 0), (.slice none 0 0)]), 5, 80) := by kernel_rfl
/-- A form in new memory, from block B on. -/
def NewF (B : Nat) (w' : World) (x : Fm) (v3 v4 : Value) : Prop := ∃ fp, TrF w' x v3 v4 fp ∧ fp.Nodup ∧ ∀ b, b ∈ fp → B ≤ b
/-- A list of forms in new memory, from block B on. -/
def NewL (B : Nat) (w' : World) (ks : List Fm) (v : Value) : Prop := ∃ inner fp, w'.ownsRow 0 26 5 v ks.length inner ∧ TrL w' ks inner fp ∧ (obs v ++ fp).Nodup ∧ ∀ b, b ∈ obs v ++ fp → B ≤ b
def RetF (w : World) (x : Fm) (e : Ending) (w' : World) : Prop := ∃ v3 v4, e = .returned (.agg #[.int .i64 x.f0, .string x.f1, .int .i64 x.f2, v3, v4]) ∧ NewF w.heap.size w' x v3 v4 ∧ Below w.heap.size w w'
def RetL (w : World) (ks : List Fm) (e : Ending) (w' : World) : Prop := ∃ v, e = .returned v ∧ NewL w.heap.size w' ks v ∧ Below w.heap.size w w'

/-- As the print tells what is the call's own. -/
theorem TrF.R {w : World} {B : Nat} : ∀ (x : Fm) {v3 v4 : Value} {fp : List Nat} {ok : Nat → Prop}, TrF w x v3 v4 fp → fp.Nodup → (∀ b, b ∈ fp → B ≤ b) → (∀ b, b ∈ fp → ok b) → kI.R 3 w B ok v3 x.f3 ∧ kF.R 26 w B (fun k => ok k ∧ some k ≠ v3.ownBlock) v4 x.f4 := by
  intro x
  induction x using Fm.ind with
  | h x ih =>
    intro v3 v4 fp ok h hnd hge hok
    obtain ⟨inner, fk, rfl, h3, h4, hk⟩ := h.open
    obtain ⟨n1, n2, n3⟩ := List.nodup_append.1 hnd
    obtain ⟨n4, n5, n6⟩ := List.nodup_append.1 n2
    refine ⟨Kd.R_of_own (own_base_ h3 (fun b hb => hge b (by simp [obs_mem, hb]))) (fun k hk => hok k (by simp [obs_mem, hk])), fun k hk => ⟨hok k (by simp [obs_mem, hk]), fun he => n3 k (obs_mem.2 he.symm) k (by simp [obs_mem, hk]) rfl⟩, inner, own_base_ h4 (fun b hb => hge b (by simp [obs_mem, hb])), ?_⟩
    have key : ∀ (ks : List Fm), (∀ k, k ∈ ks → k ∈ x.f4) → ∀ {inner : List Value} {fk : List Nat}, TrL w ks inner fk → fk.Nodup → (∀ b, b ∈ fk → B ≤ b) → (∀ b, b ∈ fk → ok b ∧ some b ≠ v3.ownBlock ∧ some b ≠ v4.ownBlock) → Reps (kF.M w B (fun k => (ok k ∧ some k ≠ v3.ownBlock) ∧ some k ≠ v4.ownBlock)) 5 ks inner := by
      intro ks
      induction ks with
      | nil => intro _ inner fk h _ _ _; obtain ⟨rfl, rfl⟩ := h.nil_inv; exact Reps.none _ _
      | cons k ks ih2 =>
        intro hsub inner fk h hnd hge hok
        obtain ⟨u3, u4, rest, f1, f2, rfl, rfl, hk, hs⟩ := h.cons_inv
        obtain ⟨m1, m2, m3⟩ := List.nodup_append.1 hnd
        have hR := ih k (hsub k List.mem_cons_self) (ok := fun k => (ok k ∧ some k ≠ v3.ownBlock) ∧ some k ≠ v4.ownBlock) hk m1 (fun b hb => hge b (List.mem_append_left _ hb)) (fun b hb => ⟨⟨(hok b (List.mem_append_left _ hb)).1, (hok b (List.mem_append_left _ hb)).2.1⟩, (hok b (List.mem_append_left _ hb)).2.2⟩)
        have hr := ih2 (fun k hk => hsub k (List.mem_cons_of_mem _ hk)) hs m2 (fun b hb => hge b (List.mem_append_right _ hb)) (fun b hb => hok b (List.mem_append_right _ hb))
        refine ⟨by rw [List.length_append, hr.1]; simp; omega, fun j p hj => ?_⟩
        cases j with
        | zero =>
          have : k = p := by simpa using hj
          subst this
          simpa using kF_mkM hR.1 (Kd.R_mono hR.2 (fun _ h => h.1))
        | succ j =>
          have h2 := hr.2 j p (by simpa using hj)
          rw [show (j + 1) * 5 = 5 + j * 5 from by omega, ← List.drop_drop]
          simpa using h2
    refine key x.f4 (fun _ h => h) hk n5 (fun b hb => hge b (by simp [hb])) (fun b hb => ⟨hok b (by simp [hb]), fun he => n3 b (obs_mem.2 he.symm) b (by simp [hb]) rfl, fun he => n6 b (obs_mem.2 he.symm) b hb rfl⟩)
abbrev zc : List Value := [.int .i64 0, .string ⟨#[]⟩, .int .i64 0, .slice none 0 0, .slice none 0 0]
def ToForm (x : Fm) : Prop := ∀ (A3 : Option Addr) (c3 : Nat) (A4 : Option Addr) (c4 : Nat) (w : World), FmIn w x A3 c3 A4 c4 → x.tot ≤ 1048576 →
    Calls Tryd.prog 23 #[.agg #[.int .i64 x.f0, .string x.f1, .int .i64 x.f2, .slice A3 x.f3.length c3, .slice A4 x.f4.length c4]] w (RetF w x)
end Go.Proofs.YteeepenncddnjaaDoor
end
section
namespace Go.Proofs.YteeepenncddnjaaDoor
open Go.RowKit Go.Proofs.YteeepenncddnjaaDoorW.PrintWords Go.Proofs.YteeepenncddnjaaDoorW.PrintLast Go.Proofs.YteeepenncddnjaaDoorW.PrintMore
set_option linter.unusedVariables false
set_option linter.unusedSimpArgs false
/-- How a function tells of a form in new memory: from block B on. -/
structure Tells where
  T : Nat → World → Fm → Value → Value → Prop
  move : ∀ {B w w' x v3 v4}, T B w x v3 v4 → (∀ b, B ≤ b → w'.heap[b]? = w.heap[b]?) → T B w' x v3 v4
  low : ∀ {B B' w x v3 v4}, B' ≤ B → T B w x v3 v4 → T B' w x v3 v4
  form : ∀ {B w x v3 v4}, T B w x v3 v4 → ∃ A c B d, v3 = .slice A x.f3.length c ∧ v4 = .slice B x.f4.length d
def RetT (t : Tells) (w : World) (p : Fm × Bool) (e : Ending) (w' : World) : Prop := ∃ v3 v4, e = .returned (.tuple #[.agg #[.int .i64 p.1.f0, .string p.1.f1, .int .i64 p.1.f2, v3, v4], .bool p.2]) ∧ t.T w.heap.size w' p.1 v3 v4 ∧ Below w.heap.size w w'
def tellsNew : Tells where
  T := NewF
  move := by
    rintro B w w' x v3 v4 ⟨fp, ht, hn, hg⟩ hm
    exact ⟨fp, ht.move x (fun b hb => hm b (hg b hb)), hn, hg⟩
  low := by
    rintro B B' w x v3 v4 hb ⟨fp, ht, hn, hg⟩
    exact ⟨fp, ht, hn, fun b h => Nat.le_trans hb (hg b h)⟩
  form := by
    rintro B w x v3 v4 ⟨fp, ht, hn, hg⟩
    obtain ⟨A3, c3, A4, c4, e3, e4, _⟩ := ht.In
    exact ⟨A3, c3, A4, c4, e3, e4⟩
def tellsR : Tells where
  T := fun B w x v3 v4 => kI.R 3 w B (fun _ => True) v3 x.f3 ∧ kF.R 26 w B (fun k => some k ≠ v3.ownBlock) v4 x.f4
  move := by
    rintro B w w' x v3 v4 ⟨h3, h4⟩ hm
    have h3' := Kd.R_mono (Kd.R_move (Kd.R_bound h3) (fun k hk => hm k hk.2.1)) (fun _ _ => trivial)
    exact ⟨h3', Kd.R_mono (Kd.R_move (Kd.R_bound h4) (fun k hk => hm k hk.2.1)) (fun _ hk => hk.1)⟩
  low := by
    rintro B B' w x v3 v4 hb ⟨h3, h4⟩
    exact ⟨Kd.R_lower h3 hb, Kd.R_lower h4 hb⟩
  form := by
    rintro B w x v3 v4 ⟨h3, h4⟩
    obtain ⟨A, c, e3⟩ := Kd.R_slice h3
    obtain ⟨A2, c2, e4⟩ := Kd.R_slice h4
    exact ⟨A, c, A2, c2, e3, e4⟩
/-- What a mover leaves, as_ the print tells it. -/
theorem Mk.kept {v : Value} {w w' : World} {P1 : Nat → Prop} (h : Mk (obs v) w w') (hp : ∀ k, v.ownBlock = some k → P1 k) : Kept w w' (fun k => P1 k) := ⟨h.b0.size, fun i hi hn => h.keep i hi (fun hm => hn (hp i (obs_mem.1 hm)))⟩
/-- A set with a number put in or taken out. -/
def flipS (l : List Int) (n : Int) : List Int := if n ∈ l then l.filter (fun y => !(y == n)) else putS l n
end Go.Proofs.YteeepenncddnjaaDoor
end
section
namespace Go.Proofs.YteeepenncddnjaaDoor
set_option linter.unusedVariables false
set_option linter.unusedSimpArgs false
abbrev Srt (l : List Int) : Prop := l.Pairwise (· < ·)
abbrev takeO (l : List Int) (x : Int) : List Int := l.filter (fun y => !(y == x))
end Go.Proofs.YteeepenncddnjaaDoor
end
section
namespace Go.Proofs.YteeepenncddnjaaDoor
set_option linter.unusedVariables false
set_option linter.unusedSimpArgs false
mutual
/-- A form whose names have other scopes (what is no name has none). -/
def Fm.chS (g : List Int → List Int) : Fm → Fm
  | ⟨a, b, c, d, ks⟩ => ⟨a, b, c, if a = 1 then g d else [], chSL g ks⟩
def chSL (g : List Int → List Int) : List Fm → List Fm
  | [] => []
  | k :: ks => k.chS g :: chSL g ks
end
/-- A fact on all names within a form. -/
inductive AllNm (P : Fm → Prop) : Fm → Prop
  | mk (x : Fm) (h : x.f0 = 1 → P x) (hk : ∀ k, k ∈ x.f4 → AllNm P k) : AllNm P x
theorem AllNm.at {P : Fm → Prop} {x : Fm} (h : AllNm P x) : x.f0 = 1 → P x := by cases h; assumption
theorem AllNm.kid {P : Fm → Prop} {x : Fm} (h : AllNm P x) : ∀ k, k ∈ x.f4 → AllNm P k := by cases h; assumption
theorem AllNm.imp {P Q : Fm → Prop} (hi : ∀ x, P x → Q x) {x : Fm} (h : AllNm P x) : AllNm Q x := by
  induction h with
  | mk x h hk ih => exact ⟨x, fun e => hi x (h e), ih⟩
theorem AllNm.and {P Q : Fm → Prop} {x : Fm} (h : AllNm P x) (h2 : AllNm Q x) : AllNm (fun y => P y ∧ Q y) x := by
  induction h with
  | mk x h hk ih => exact ⟨x, fun e => ⟨h e, h2.at e⟩, fun k hk => ih k hk (h2.kid k hk)⟩
theorem AllNm.all {P : Fm → Prop} (h : ∀ x, P x) (x : Fm) : AllNm P x := by
  induction x using Fm.ind with
  | h x ih => exact ⟨x, fun _ => h x, ih⟩
theorem toList_len (s : ByteArray) : s.toList.length = s.size := by rw [ByteArray.toList_eq]; exact Array.length_toList
theorem nmOk_size {s : ByteArray} (h : NmOk s) : s.size ≤ 12 := by
  rcases h with h | h | h
  · have := congrArg List.length h; rw [toList_len] at this; simp at this; omega
  · have := congrArg List.length h; rw [toList_len] at this; simp at this; omega
  · exact h.2.1
/-- What AddScope, FlipScope, DropScope and DressLike return. -/
noncomputable def orN (x : Fm) : Fm × Bool := if pB (FmOk x) then (x, true) else (zFm, false)
noncomputable def reS (g : List Int → List Int) (n : Int) (x : Fm) : Fm × Bool := if pB (FmOk x ∧ 1 ≤ n ∧ n ≤ 99) then orN (x.chS g) else (zFm, false)
abbrev tupF (p : Fm × Bool) : Int × ByteArray × Int × List Int × List Fm × Bool := (p.1.f0, p.1.f1, p.1.f2, p.1.f3, p.1.f4, p.2)
end Go.Proofs.YteeepenncddnjaaDoor
end
section
namespace Go.Proofs.YteeepenncddnjaaDoor
open Go.RowKit Go.Proofs.YteeepenncddnjaaDoorW.PrintWords Go.Proofs.YteeepenncddnjaaDoorW.PrintLast Go.Proofs.YteeepenncddnjaaDoorW.PrintMore
set_option linter.unusedVariables false
set_option linter.unusedSimpArgs false
abbrev encS (xs : List ByteArray) : List Value := encs Value.string xs
/-- One form's name is told, if it is a name that is not told yet. -/
def nmStep (s : List ByteArray) (y : Fm) : List ByteArray := if y.f0 = 1 ∧ y.f1 ∉ s then s ++ [y.f1] else s
abbrev namesN (x : Fm) : List ByteArray := foldF nmStep x []
mutual
theorem cost_nm : ∀ x : Fm, costF (fun _ => 1) x = x.size
  | ⟨a, b, c, d, ks⟩ => by rw [costF, Fm.size_eq, cost_nmL ks]
theorem cost_nmL : ∀ ks : List Fm, costFs (fun _ => 1) ks = sizes ks
  | [] => by rw [costFs]; rfl
  | k :: ks => by rw [costFs, cost_nmL ks, cost_nm k]; rfl
end
theorem infoSt : (Tryd.prog.info? 9).map (fun i => (i.zero, i.size, i.bytes)) = some (some (.string ⟨#[]⟩), 1, 16) := by kernel_rfl
theorem own_CS {w : World} {v : Value} {xs : List ByteArray} {B : Nat} (h : w.ownsRow B 9 1 v xs.length (encS xs)) : ∃ A c, v = .slice A xs.length c ∧ xs.length ≤ c ∧ kS.C w A xs.length xs := by
  obtain ⟨A, c, e, hr⟩ := own_reads_row (R := kS.K w) h (Kd.reps_scalar xs) rfl
  subst e
  exact ⟨A, c, rfl, own_le h, hr⟩
/-- A block with one string reads as_ a row. -/
theorem one_str {W : World} {b : Nat} {n : ByteArray} (hb : W.heap[b]? = some (.cells #[.string n] 9 (0, 0))) : kS.C W (some ⟨b, 0, none⟩) 1 [n] := by
  refine Kd.C_of_reads (d := ByteArray.empty) (h1 := fun _ => rfl) ⟨rfl, by omega, fun hn => ⟨⟨b, 0, none⟩, rfl, fun i hi => ?_⟩⟩
  obtain rfl : i = 0 := by omega
  exact (blk_cell hb 0).trans rfl
/-- A row of strings in new memory is handed back. -/
def RetS (w : World) (xs : List ByteArray) (e : Ending) (w' : World) : Prop := ∃ v, e = .returned v ∧ w'.ownsRow w.heap.size 9 1 v xs.length (encS xs) ∧ Below w.heap.size w w'
end Go.Proofs.YteeepenncddnjaaDoor
end
section
namespace Go.Proofs.YteeepenncddnjaaDoor
open Go.RowKit Go.Proofs.YteeepenncddnjaaDoorW.PrintWords Go.Proofs.YteeepenncddnjaaDoorW.PrintLast Go.Proofs.YteeepenncddnjaaDoorW.PrintMore
set_option linter.unusedVariables false
set_option linter.unusedSimpArgs false
theorem lens_ge (l : List (List UInt8)) : l.length ≤ lens l := by
  induction l with
  | nil => simp [lens]
  | cons x r ih => simp only [lens, List.length_cons]; omega
/-- A row of strings is joined. -/
theorem join_own {w : World} {B : Nat} {v : Value} (L : List (List UInt8)) (s : UInt8) (h : w.ownsRow B 9 1 v (L.map B8).length (encS (L.map B8))) (hl : lens L ≤ 1000000) :
    Calls Tryd.prog 65 #[v, .string ⟨#[s]⟩] w (Ret w (.string (B8 (Lib.join L [s])))) := by
  have hn := lens_ge L
  rcases h with ⟨_, ⟨rfl, h0⟩ | ⟨g, cap, cur, rfl, hg, hh, hnc, hcm, hcs, htake⟩⟩
  · have : L = [] := List.eq_nil_of_length_eq_zero (by simpa using h0)
    subst this
    exact join_none_any none 0 _ w
  · rw [Nat.mul_one] at hcs htake
    have hJ := join_len L s
    refine (join_any g 0 cap (L.map B8) ⟨#[s]⟩ w (fun j x hx => ?_) (blk_lt hh) (by simp; omega) hnc (by rw [B8_map]; show (Lib.join L [s]).length ≤ _; omega)).mono ?_
    · have hjl : j < (L.map B8).length := (List.getElem?_eq_some_iff.1 hx).1
      have e1 : (encS (L.map B8))[j]? = some (.string x) := by simp only [encs, List.getElem?_map, hx, Option.map_some]
      rw [← htake, List.getElem?_take_of_lt (by simpa using hjl)] at e1
      rw [Nat.zero_add]
      refine (blk_cell hh j).trans ?_
      rw [← e1]
      simp
    · rintro e w' ⟨rfl, hb⟩
      exact ⟨by rw [B8_map]; rfl, hb⟩
theorem own_nil {W : World} {g B : Nat} (hg : B ≤ g) (hb : W.heap[g]? = some (.cells #[] 9 (0, 0))) : W.ownsRow B 9 1 (.slice (some ⟨g, 0, none⟩) 0 0) (([] : List (List UInt8)).map B8).length (encS (([] : List (List UInt8)).map B8)) :=
  ⟨by simp [encs], .inr ⟨_, 0, #[], rfl, hg, hb, Nat.le_refl _, Nat.zero_le _, rfl, by simp [encs]⟩⟩
set_option maxHeartbeats 4000000 in
set_option maxRecDepth 100000 in
theorem formText_any : ∀ (n : Nat) (x : Fm) (A3 : Option Addr) (c3 : Nat) (A4 : Option Addr) (c4 : Nat) (w : World), FmIn w x A3 c3 A4 c4 → IsOk n x → x.size ≤ 400 → TabP w →
    Calls Tryd.prog 37 #[.agg #[.int .i64 x.f0, .string x.f1, .int .i64 x.f2, .slice A3 x.f3.length c3, .slice A4 x.f4.length c4]] w (Ret w (.string (B8 x.txt))) := by
  intro n
  induction n with
  | zero => intro x A3 c3 A4 c4 w hin hok hs htab; exact absurd hok (fun h => h)
  | succ n ih =>
    intro x A3 c3 A4 c4 w hin hok hs htab
    have hbx := below_new w (.cells #[.int .i64 x.f0, .string x.f1, .int .i64 x.f2, .slice A3 x.f3.length c3, .slice A4 x.f4.length c4] 26)
    have hkb := blk_new w (.cells #[.int .i64 x.f0, .string x.f1, .int .i64 x.f2, .slice A3 x.f3.length c3, .slice A4 x.f4.length c4] 26)
    obtain ⟨p0, p1, p2, p3, p4⟩ := fm_cells hkb
    have HI := Lib.hid hin
    obtain ⟨wB, hwB⟩ : ∃ wB, wB = w.alloc (.cells #[.int .i64 x.f0, .string x.f1, .int .i64 x.f2, .slice A3 x.f3.length c3, .slice A4 x.f4.length c4] 26) := ⟨_, rfl⟩
    rw [← hwB] at hbx hkb
    have HX := Lib.hid (And.intro hbx hkb)
    have HWB := Lib.hid hwB
    have HZB := Lib.hid (show wB.heap.size = w.heap.size + 1 by rw [hwB]; simp)
    have HTB := Lib.hid (fun W (hb : Below w.heap.size w W) => htab.below hb)
    by_cases k1 : x.f0 = 1
    · have t1 : (x.f0 == 1) = true := beq_iff_eq.mpr k1
      have q := (isOk1 k1).1 hok
      have hm3 : x.f3.length ≤ 24 := q.2.2.1.1
      have HT := Lib.hid (show x.txt = nameT x.f1 x.f3 by rw [Fm.txt_eq, if_neg (by omega), if_pos k1])
      have HS := Lib.hid q.2.2.1
      have hn := nmOk_sz12 q.1
      clear hin hok hs hbx hkb k1 q ih htab hwB
      by_cases hz : x.f3.length = 0
      · have tz : ((x.f3.length : Int) == 0) = true := by rw [beq_iff_eq]; omega
        have tz2 : (x.f3.length == 0) = true := by rw [beq_iff_eq]; omega
        have HE := Lib.hid (show x.f1 = B8 x.txt by rw [HT.out, nameT, scTx, if_pos hz, List.append_nil, B8_of])
        have HZ := Lib.hid hz
        clear hz
        go_enter Tryd.func37, Tryd.ntmps37
        go_wp2_with fail
        go_ret
        exact ⟨by rw [← HE.out]; rfl, below_new _ _⟩
      have tz : ((x.f3.length : Int) == 0) = false := by rw [beq_eq_false_iff_ne]; omega
      have tz2 : (x.f3.length == 0) = false := by rw [beq_eq_false_iff_ne]; omega
      have HZ := Lib.hid hz
      clear hz
      go_enter Tryd.func37, Tryd.ntmps37
      go_wp2_with fail
      clear p0 p1 p2 p3 p4
      go_loopg [3, 5, 23] x.f3.length (fun kq v3 v5 v23 w' => ∃ (i : Nat) (s : List ByteArray) (u : Value), i ≤ x.f3.length ∧ x.f3.length - i ≤ kq ∧ v23 = .int .i64 i ∧ v3 = u ∧ Aside0 (s = ((digs x.f3).take i).map B8) ∧ Aside0 (w'.ownsRow wB.heap.size 9 1 u s.length (encS s)) ∧ Aside0 (Below wB.heap.size wB w'))
      case atStart => exact ⟨0, [], _, Nat.zero_le _, by omega, rfl, rfl, ⟨rfl⟩, ⟨own_nil (by rw [HZB.out]; exact Nat.le_refl _) (by have := blk_new wB (.cells #[] 9); rw [HWB.out] at this; simpa using this)⟩, ⟨by rw [HWB.out]; exact below_new _ _⟩⟩
      case round =>
        obtain ⟨i, s, u, hi, hg, rfl, hu0, HS0, HO, HW⟩ := hrel
        have hu1 := hu0.symm
        subst hu1
        clear hu0
        obtain ⟨D, m, rfl, hDm, hDC⟩ := own_CS HO.out
        have hdl : s.length = i := by rw [HS0.out, List.length_map, List.length_take, digs_len]; omega
        by_cases hlt : i < x.f3.length
        · obtain ⟨ad, e, hcell⟩ := int_at (Kd.C_below HI.out.g3 (below_step HX.out.1 HW.out)) i hlt
          subst e
          have hv := HS.out.2 i hlt
          have HC := Lib.hid (itoa_any x.f3[i] wr (by omega) (by omega) (HTB.out _ (below_step HX.out.1 HW.out)))
          have HDL := Lib.hid (And.intro hdl hDC)
          clear hv hdl hDC
          go_wp2_with fail
          refine HC.out.mono ?_
          rintro e w1 ⟨rfl, hb0⟩
          have hn1 := below_new w1 (.cells #[.string (B8 (Lib.itoa x.f3[i]))] 9)
          have hb3 := below_step hb0 hn1
          have HR := Aside0.mk (Kd.R_of_own (ok := fun _ => True) (h1 := fun _ => rfl) (own_move HO.out (fun k hk => hb3.block k (own_lt HO.out k hk))) (fun _ _ => trivial))
          have HCN := Aside0.mk (one_str (blk_new w1 (.cells #[.string (B8 (Lib.itoa x.f3[i]))] 9)))
          have HB := Lib.hid (below_step HW.out hb3)
          have hi25 : i ≤ 24 := by omega
          clear hb0 hn1 hb3 hcell
          rw [show (⟨(Lib.itoa x.f3[i]).toArray⟩ : ByteArray) = B8 (Lib.itoa x.f3[i]) from rfl]
          go_wp2_with (first | ((with_reducible refine gate_dst (N := 31) rfl ?_); refine Kd.R_append_row Value.string ByteArray.empty (w0 := wB) wB.heap.size rfl (.tmp 27) (.tmp 30) 83 9 (.string ⟨#[]⟩) 16 rfl Tryd.underlying83 infoSt rfl (by decide) (.slice D s.length m) s [B8 (Lib.itoa x.f3[i])] (some ⟨w1.heap.size, 0, none⟩) 1 1 (fun _ => True) rfl rfl (fun _ _ => trivial) HR.out HCN.out HB.out HB.out.size (by have := HDL.out.1; omega) ?_; intro v1 w2 ho1 hb1 hg1 hat1; have HG := Lib.hid (And.intro (Kd.own_of_R ho1) hb1); clear ho1 hb1 hg1 hat1))
          go_roundg (x.f3.length - (i + 1))
          case measure => omega
          case rel =>
            refine ⟨i + 1, s ++ [B8 (Lib.itoa x.f3[i])], _, by omega, Nat.le_refl _, by go_num, rfl, ⟨by rw [HS0.out, digs_take x.f3 i hlt, List.map_append]; rfl⟩, ⟨?_⟩, ⟨HG.out.2⟩⟩
            have := HG.out.1
            exact this
        · obtain rfl : i = x.f3.length := by omega
          have hb9 := HW.out
          have hk9 := blk_below HX.out.2 hb9
          have hc1 : wr.cell? ⟨w.heap.size, 1, none⟩ = some (.string x.f1) := (fm_cells hk9).2.1
          have HJ := Lib.hid (fun W (hb : Below wr.heap.size wr W) => join_own (w := W) (B := wB.heap.size) (v := .slice D s.length m) (digs x.f3) 44 (by have := own_move HO.out (fun k hk => hb.block k (own_lt HO.out k hk)); rwa [show (digs x.f3).map B8 = s from by rw [HS0.out, List.take_of_length_le (by rw [digs_len]; exact Nat.le_refl _)]]) (by have := lens_digs x.f3 HS.out; omega))
          have HE := Lib.hid (show x.f1 ++ ⟨#[123]⟩ ++ B8 (Lib.join (digs x.f3) [44]) ++ ⟨#[125]⟩ = B8 x.txt by
            rw [HT.out, nameT, scTx, if_neg HZ.out, ← B8_of x.f1, show (⟨#[123]⟩ : ByteArray) = B8 [123] from rfl, show (⟨#[125]⟩ : ByteArray) = B8 [125] from rfl, B8_append, B8_append, B8_append, B8_toList]; simp [List.append_assoc])
          have hsz : (B8 (Lib.join (digs x.f3) [44])).size ≤ 1000 := by rw [B8_size]; have := join_len (digs x.f3) 44; have := lens_digs x.f3 HS.out; omega
          have HB := Lib.hid (below_step HX.out.1 hb9)
          clear hb9 hk9
          generalize B8 (Lib.join (digs x.f3) [44]) = t at hsz HE HJ
          have f1 : (9223372036854775807 < x.f1.size + 1) = False := eq_false (by omega)
          have f2 : (9223372036854775807 < x.f1.size + 1 + t.size) = False := eq_false (by omega)
          have f3 : (9223372036854775807 < x.f1.size + 1 + t.size + 1) = False := eq_false (by omega)
          clear hDC hdl
          go_wp2_with fail
          go_region_held3 (fun W => W.cell? ⟨w.heap.size, 1, none⟩ = some (.string x.f1)) (first | go_keep | exact ck0 (below_step (Below.refl _ _).drew hba) hc1)
            ((go_at_call 65; refine (HJ.out _ (Below.refl _ _).drew).mono ?_; rintro e wa ⟨rfl, hba⟩))
          have HB2 := Lib.hid (below_step HB.out (below_step (Below.refl _ _).drew hba))
          clear hba hc1
          go_wp2_with fail
          go_ret
          exact ⟨by rw [← HE.out]; rfl, HB2.out⟩
    have t1 : (x.f0 == 1) = false := beq_eq_false_iff_ne.mpr k1
    by_cases k2 : x.f0 = 2
    · have t2 : (x.f0 == 2) = true := beq_iff_eq.mpr k2
      have q := (isOk2 k2).1 hok
      have HT := Lib.hid (show B8 (Lib.itoa x.f2) = B8 x.txt by rw [Fm.txt_eq, if_pos k2])
      have HC := Lib.hid (fun W (hb : Below w.heap.size w W) => itoa_any x.f2 W (by omega) (by omega) (HTB.out W hb))
      have HN := Lib.hid (below_new w (.cells #[.int .i64 x.f0, .string x.f1, .int .i64 x.f2, .slice A3 x.f3.length c3, .slice A4 x.f4.length c4] 26))
      clear hin hok hs hbx hkb k1 k2 q ih htab hwB
      go_enter Tryd.func37, Tryd.ntmps37
      go_wp2_with fail
      refine (HC.out _ HN.out).mono ?_
      rintro e w1 ⟨rfl, hb⟩
      have HB := Lib.hid (below_step HN.out hb)
      clear hb p0 p1 p2 p3 p4
      go_wp2_with fail
      go_ret
      exact ⟨by rw [← HT.out]; rfl, HB.out⟩
    have t2 : (x.f0 == 2) = false := beq_eq_false_iff_ne.mpr k2
    have q := (isOk3 k1 k2).1 hok
    have hm4 : x.f4.length ≤ 400 := by have := szs_len x.f4; rw [Fm.size_eq] at hs; omega
    have HT := Lib.hid (show x.txt = 40 :: (Lib.join (txtL x.f4) [32] ++ [41]) by rw [Fm.txt_eq, if_neg k2, if_neg k1])
    have HK := Lib.hid q.2.2.2.2
    have HS := Lib.hid (show sizes x.f4 ≤ 399 by rw [Fm.size_eq] at hs; omega)
    have IH := Lib.hid ih
    clear hin hok hs hbx hkb k1 k2 q ih htab hwB
    go_enter Tryd.func37, Tryd.ntmps37
    go_wp2_with fail
    clear p0 p1 p2 p3 p4
    go_loopg [6, 8, 49] x.f4.length (fun kq v6 v8 v49 w' => ∃ (i : Nat) (s : List ByteArray) (u : Value), i ≤ x.f4.length ∧ x.f4.length - i ≤ kq ∧ v49 = .int .i64 i ∧ v6 = u ∧ Aside0 (s = ((txtL x.f4).take i).map B8) ∧ Aside0 (w'.ownsRow wB.heap.size 9 1 u s.length (encS s)) ∧ Aside0 (Below wB.heap.size wB w'))
    case atStart => exact ⟨0, [], _, Nat.zero_le _, by omega, rfl, rfl, ⟨rfl⟩, ⟨own_nil (by rw [HZB.out]; exact Nat.le_refl _) (by have := blk_new wB (.cells #[] 9); rw [HWB.out] at this; simpa using this)⟩, ⟨by rw [HWB.out]; exact below_new _ _⟩⟩
    case round =>
      obtain ⟨i, s, u, hi, hg, rfl, hu0, HS0, HO, HW⟩ := hrel
      have hu1 := hu0.symm
      subst hu1
      clear hu0
      obtain ⟨D, m, rfl, hDm, hDC⟩ := own_CS HO.out
      have hdl : s.length = i := by rw [HS0.out, List.length_map, List.length_take, txtL_len]; omega
      have HB0 := Lib.hid (below_step HX.out.1 HW.out)
      by_cases hlt : i < x.f4.length
      · obtain ⟨ad, G3, m3, G4, m4, e, g0, g1, g2, g3, g4, hk⟩ := kid_at HI.out.g4 i hlt
        subst e
        replace g0 := ck0 HB0.out g0
        replace g1 := ck0 HB0.out g1
        replace g2 := ck0 HB0.out g2
        replace g3 := ck0 HB0.out g3
        replace g4 := ck0 HB0.out g4
        have hko := HK.out _ (List.getElem_mem hlt)
        have hsz : x.f4[i].size ≤ 399 := by have := sizes_mem (List.getElem_mem hlt); have := HS.out; omega
        have hnb := below_new wr (.cells #[.int .i64 x.f4[i].f0, .string x.f4[i].f1, .int .i64 x.f4[i].f2, .slice G3 x.f4[i].f3.length m3, .slice G4 x.f4[i].f4.length m4] 26)
        have HC := Lib.hid (IH.out x.f4[i] G3 m3 G4 m4 (wr.alloc (.cells #[.int .i64 x.f4[i].f0, .string x.f4[i].f1, .int .i64 x.f4[i].f2, .slice G3 x.f4[i].f3.length m3, .slice G4 x.f4[i].f4.length m4] 26)) (hk.below (below_step HB0.out hnb)) hko (by omega) (HTB.out _ (below_step HB0.out hnb)))
        have HDL := Lib.hid (And.intro hdl hDC)
        have HNB := Lib.hid hnb
        clear hk hko hsz hdl hDC hnb
        go_wp2_with fail
        refine HC.out.mono ?_
        rintro e w1 ⟨rfl, hb0⟩
        clear g0 g1 g2 g3 g4
        have HTI := Lib.hid (show s ++ [B8 x.f4[i].txt] = ((txtL x.f4).take (i + 1)).map B8 by rw [HS0.out, txtL_take x.f4 i hlt, List.map_append]; rfl)
        generalize B8 x.f4[i].txt = t at HTI HC ⊢
        have hn1 := below_new w1 (.cells #[.string t] 9)
        have hb3 := below_step (below_step HNB.out hb0) hn1
        have HR := Aside0.mk (Kd.R_of_own (ok := fun _ => True) (h1 := fun _ => rfl) (own_move HO.out (fun k hk => hb3.block k (own_lt HO.out k hk))) (fun _ _ => trivial))
        have HCN := Aside0.mk (one_str (blk_new w1 (.cells #[.string t] 9)))
        have HB := Lib.hid (below_step HW.out hb3)
        have hi25 : i ≤ 400 := by omega
        clear hb0 hn1 hb3
        go_wp2_with (first | ((with_reducible refine gate_dst (N := 57) rfl ?_); refine Kd.R_append_row Value.string ByteArray.empty (w0 := wB) wB.heap.size rfl (.tmp 53) (.tmp 56) 83 9 (.string ⟨#[]⟩) 16 rfl Tryd.underlying83 infoSt rfl (by decide) (.slice D s.length m) s [t] (some ⟨w1.heap.size, 0, none⟩) 1 1 (fun _ => True) rfl rfl (fun _ _ => trivial) HR.out HCN.out HB.out HB.out.size (by have := HDL.out.1; omega) ?_; intro v1 w2 ho1 hb1 hg1 hat1; have HG := Lib.hid (And.intro (Kd.own_of_R ho1) hb1); clear ho1 hb1 hg1 hat1))
        go_roundg (x.f4.length - (i + 1))
        case measure => omega
        case rel =>
          refine ⟨i + 1, s ++ [t], _, by omega, Nat.le_refl _, by go_num, rfl, ⟨HTI.out⟩, ⟨?_⟩, ⟨HG.out.2⟩⟩
          have := HG.out.1
          exact this
      · obtain rfl : i = x.f4.length := by omega
        have HJ := Lib.hid (fun W (hb : Below wr.heap.size wr W) => join_own (w := W) (B := wB.heap.size) (v := .slice D s.length m) (txtL x.f4) 32 (by have := own_move HO.out (fun k hk => hb.block k (own_lt HO.out k hk)); rwa [show (txtL x.f4).map B8 = s from by rw [HS0.out, List.take_of_length_le (by rw [txtL_len]; exact Nat.le_refl _)]]) (by have := lens_txt HK.out; have := HS.out; omega))
        have HE := Lib.hid (show ⟨#[40]⟩ ++ B8 (Lib.join (txtL x.f4) [32]) ++ ⟨#[41]⟩ = B8 x.txt by
          rw [HT.out, show (⟨#[40]⟩ : ByteArray) = B8 [40] from rfl, show (⟨#[41]⟩ : ByteArray) = B8 [41] from rfl, B8_append, B8_append]; rfl)
        have hsz : (B8 (Lib.join (txtL x.f4) [32])).size ≤ 80000 := by rw [B8_size]; have := join_len (txtL x.f4) 32; have := lens_txt HK.out; have := HS.out; omega
        clear hDC hdl
        generalize B8 (Lib.join (txtL x.f4) [32]) = t at hsz HE HJ
        go_wp2_with fail
        refine (HJ.out _ (Below.refl _ _)).mono ?_
        rintro e w1 ⟨rfl, hb⟩
        have HB2 := Lib.hid (below_step HB0.out hb)
        clear hb
        go_wp2_with fail
        go_ret
        exact ⟨by rw [← HE.out]; rfl, HB2.out⟩
end Go.Proofs.YteeepenncddnjaaDoor
end
section
namespace Go.Proofs.YteeepenncddnjaaDoor
open Go.RowKit Go.Proofs.YteeepenncddnjaaDoorW.PrintWords Go.Proofs.YteeepenncddnjaaDoorW.PrintLast Go.Proofs.YteeepenncddnjaaDoorW.PrintMore
set_option linter.unusedVariables false
set_option linter.unusedSimpArgs false
noncomputable def fmtT (x : Fm) : ByteArray := if pB (FmOk x) = true then B8 x.txt else ⟨#[]⟩
end Go.Proofs.YteeepenncddnjaaDoor
end
section
namespace Go.Proofs.YteeepenncddnjaaDoor
open Go.RowKit Go.Proofs.YteeepenncddnjaaDoorW.PrintWords Go.Proofs.YteeepenncddnjaaDoorW.PrintLast Go.Proofs.YteeepenncddnjaaDoorW.PrintMore
set_option linter.unusedVariables false
set_option linter.unusedSimpArgs false
/-- Behind the world w (two blocks O1, O2, then g3): the form's variable holds C. -/
structure Fr (w : World) (O1 O2 : Obj) (g3 : Nat) (C : Array Value) (W : World) : Prop where
  b : Below w.heap.size w W
  k1 : W.heap[w.heap.size]? = some O1
  k2 : W.heap[w.heap.size + 1]? = some O2
  k3 : W.heap[g3]? = some (.cells C 26 (0, 0))
  h3 : w.heap.size + 2 ≤ g3
theorem Fr.later {w W W1 : World} {O1 O2 : Obj} {g3 : Nat} {C : Array Value} (h : Fr w O1 O2 g3 C W) (hb : Below W.heap.size W W1) : Fr w O1 O2 g3 C W1 :=
  ⟨below_step h.b hb, blk_below h.k1 hb, blk_below h.k2 hb, blk_below h.k3 hb, h.h3⟩
theorem Fr.lt {w W : World} {O1 O2 : Obj} {g3 : Nat} {C : Array Value} (h : Fr w O1 O2 g3 C W) : w.heap.size + 2 ≤ W.heap.size ∧ g3 < W.heap.size := by
  have h1 := blk_lt h.k2
  have h2 := blk_lt h.k3
  omega
theorem Fr.grown {w W W1 : World} {O1 O2 : Obj} {g3 : Nat} {C : Array Value} {row : Option Nat} (h : Fr w O1 O2 g3 C W) (hg : W.grownBy W1 row) (hr : ∀ k, row = some k → w.heap.size + 2 ≤ k ∧ k ≠ g3) : Fr w O1 O2 g3 C W1 := by
  have hl := h.lt
  have hne : ∀ k, k < w.heap.size + 2 ∨ k = g3 → some k ≠ row := fun k hk he => by
    have := hr k he.symm
    omega
  refine ⟨⟨hg.os.trans h.b.os, hg.tape.trans h.b.tape, hg.output.trans h.b.output, Nat.le_trans h.b.size hg.size, fun k hk => (hg.block k (by omega) (hne k (by omega))).trans (h.b.block k hk)⟩, ?_, ?_, ?_, h.h3⟩
  · exact (hg.block _ (by omega) (hne _ (by omega))).trans h.k1
  · exact (hg.block _ (by omega) (hne _ (by omega))).trans h.k2
  · exact (hg.block _ (by omega) (hne _ (by omega))).trans h.k3
theorem Fr.put {w W : World} {O1 O2 : Obj} {g3 : Nat} {a b c d u : Value} (h : Fr w O1 O2 g3 #[a, b, c, d, u] W) (v : Value) : Fr w O1 O2 g3 #[a, b, c, d, v] (W.setCell ⟨g3, 4, none⟩ v) := by
  have h3 := h.h3
  refine ⟨below_set h.b (by show w.heap.size ≤ g3; omega), ?_, ?_, ?_, h3⟩
  · rw [Below.heap_setCell _ _ _ _ (by show w.heap.size ≠ g3; omega)]; exact h.k1
  · rw [Below.heap_setCell _ _ _ _ (by show w.heap.size + 1 ≠ g3; omega)]; exact h.k2
  · simpa using blk_set h.k3 4 v
/-- The rows of the form that is being built: its scopes, and what is done of its parts. -/
structure Cp (w : World) (O1 O2 : Obj) (g3 : Nat) (k : Int) (n : ByteArray) (m : Int) (sc : List Int) (done : List Fm) (v3 v : Value) (inner : List Value) (fp : List Nat) (W : World) : Prop where
  fr : Fr w O1 O2 g3 #[.int .i64 k, .string n, .int .i64 m, v3, v] W
  o3 : W.ownsRow 0 3 1 v3 sc.length (encI sc)
  o4 : W.ownsRow 0 26 5 v done.length inner
  tr : TrL W done inner fp
  nd : (obs v3 ++ (obs v ++ fp)).Nodup
  ge : ∀ b, b ∈ obs v3 ++ (obs v ++ fp) → w.heap.size + 2 ≤ b ∧ b ≠ g3
section
variable {w W W1 : World} {O1 O2 : Obj} {g3 : Nat} {k m : Int} {n : ByteArray} {sc : List Int} {done : List Fm} {v3 v : Value} {inner : List Value} {fp : List Nat}
theorem Cp.lt (h : Cp w O1 O2 g3 k n m sc done v3 v inner fp W) : ∀ b, b ∈ obs v3 ++ (obs v ++ fp) → b < W.heap.size := by
  intro b hb
  rcases List.mem_append.1 hb with hb | hb
  · exact own_lt h.o3 b (obs_mem.1 hb)
  rcases List.mem_append.1 hb with hb | hb
  · exact own_lt h.o4 b (obs_mem.1 hb)
  · exact h.tr.lt _ b hb
theorem Cp.later (h : Cp w O1 O2 g3 k n m sc done v3 v inner fp W) (hb : Below W.heap.size W W1) : Cp w O1 O2 g3 k n m sc done v3 v inner fp W1 := by
  have hl := h.lt
  refine ⟨h.fr.later hb, own_move h.o3 (fun b hb2 => hb.block b (hl b (by simp [obs_mem, hb2]))), own_move h.o4 (fun b hb2 => hb.block b (hl b (by simp [obs_mem, hb2]))), h.tr.later hb, h.nd, h.ge⟩
/-- Another part is done: behind the append, and the store into the variable. -/
theorem Cp.more (h : Cp w O1 O2 g3 k n m sc done v3 v inner fp W) {B : Nat} {y : Fm} {u3 u4 : Value} (hB : ∀ b, b ∈ obs v3 ++ (obs v ++ fp) → b < B) (hg3 : g3 < B) (hB2 : w.heap.size + 2 ≤ B) (hn : NewF B W y u3 u4)
    {v' : Value} (ho : W1.ownsRow 0 26 5 v' (done.length + 1) (inner ++ [.int .i64 y.f0, .string y.f1, .int .i64 y.f2, u3, u4])) (hg : W.grownBy W1 v.ownBlock) (hat : v'.ownBlock = v.ownBlock ∨ ∃ b, v'.ownBlock = some b ∧ W.heap.size ≤ b) :
    ∃ fp', Cp w O1 O2 g3 k n m sc (done ++ [y]) v3 v' (inner ++ [.int .i64 y.f0, .string y.f1, .int .i64 y.f2, u3, u4]) fp' (W1.setCell ⟨g3, 4, none⟩ v') := by
  obtain ⟨fk, ht, hnd, hge⟩ := hn
  have hl := h.lt
  have hnd0 := h.nd
  have hge0 := h.ge
  simp only [List.nodup_append, List.mem_append] at hnd0 hge0 hl hB
  obtain ⟨n3, ⟨n4, n5, n45⟩, n345⟩ := hnd0
  have htl := ht.lt y
  have hlt1 : ∀ b, b ∈ obs v' → b < W1.heap.size := fun b hb => own_lt ho b (obs_mem.1 hb)
  have hobs : ∀ b, b ∈ obs v' → b ∈ obs v ∨ W.heap.size ≤ b := by
    intro b hb
    rcases hat with e | ⟨c, e, hc⟩
    · exact .inl (obs_mem.2 (e ▸ obs_mem.1 hb))
    · have := obs_mem.1 hb
      rw [e] at this
      cases this
      exact .inr hc
  have hnv : ∀ b, b ∈ obs v3 ∨ b ∈ fp ∨ b ∈ fk → some b ≠ v.ownBlock := by
    intro b hb he
    have hbv : b ∈ obs v := obs_mem.2 he.symm
    rcases hb with hb | hb | hb
    · exact n345 b hb b (.inl hbv) rfl
    · exact n45 b hbv b hb rfl
    · have := hB b (.inr (.inl hbv))
      have := hge b hb
      omega
  have hmv : ∀ b, b ∈ obs v3 ∨ b ∈ fp ∨ b ∈ fk → (W1.setCell ⟨g3, 4, none⟩ v').heap[b]? = W.heap[b]? := by
    intro b hb
    have hb2 : b < W.heap.size ∧ b ≠ g3 := by
      rcases hb with hb | hb | hb
      · exact ⟨hl b (.inl hb), (hge0 b (.inl hb)).2⟩
      · exact ⟨hl b (.inr (.inr hb)), (hge0 b (.inr (.inr hb))).2⟩
      · have := hge b hb
        exact ⟨htl b hb, by omega⟩
    rw [Below.heap_setCell _ _ _ _ (by show b ≠ g3; exact hb2.2)]
    exact hg.block b hb2.1 (hnv b hb)
  have hv'3 : ∀ b, b ∈ obs v' → b ≠ g3 := by
    intro b hb he
    have hl3 := h.fr.lt
    rcases hobs b hb with h1 | h1
    · exact (hge0 b (.inr (.inl h1))).2 he
    · omega
  have hrow := h.fr.grown hg (fun c hc => hge0 c (.inr (.inl (obs_mem.2 hc))))
  refine ⟨fp ++ fk, hrow.put v', ?_, ?_, ?_, ?_, ?_⟩
  · exact own_move h.o3 (fun b hb => hmv b (.inl (obs_mem.2 hb)))
  · rw [List.length_append]
    exact own_move ho (fun b hb => Below.heap_setCell _ _ _ _ (by show b ≠ g3; exact hv'3 b (obs_mem.2 hb)))
  · exact (h.tr.move _ (fun b hb => hmv b (.inr (.inl hb)))).append (TrL.one (ht.move y (fun b hb => hmv b (.inr (.inr hb)))))
  · simp only [List.nodup_append, List.mem_append]
    refine ⟨n3, ⟨?_, ⟨n5, hnd, fun a ha b hb e => ?_⟩, fun a ha b hb e => ?_⟩, fun a ha b hb e => ?_⟩
    · unfold obs
      cases v'.ownBlock <;> simp
    · have := hB a (.inr (.inr ha)); have := hge b hb; omega
    · subst e
      rcases hobs a ha with h1 | h1
      · rcases hb with hb | hb
        · exact n45 a h1 a hb rfl
        · have := hB a (.inr (.inl h1)); have := hge a hb; omega
      · rcases hb with hb | hb
        · have := hl a (.inr (.inr hb)); omega
        · have := htl a hb; omega
    · subst e
      rcases hb with hb | hb | hb
      · rcases hobs a hb with h1 | h1
        · exact n345 a ha a (.inl h1) rfl
        · have := hl a (.inl ha); omega
      · exact n345 a ha a (.inr hb) rfl
      · have := hB a (.inl ha); have := hge a hb; omega
  · simp only [List.mem_append]
    intro b hb
    have hl3 := h.fr.lt
    rcases hb with hb | hb | hb | hb
    · exact hge0 b (.inl hb)
    · rcases hobs b hb with h1 | h1
      · exact hge0 b (.inr (.inl h1))
      · exact ⟨by omega, by omega⟩
    · exact hge0 b (.inr (.inr hb))
    · have := hge b hb
      exact ⟨by omega, by omega⟩
/-- All parts are done. -/
theorem Cp.newF (h : Cp w O1 O2 g3 k n m sc done v3 v inner fp W) (hW : ∀ b, b ≠ w.heap.size + 1 → W1.heap[b]? = W.heap[b]?) : NewF w.heap.size W1 ⟨k, n, m, sc, done⟩ v3 v := by
  have hge := h.ge
  refine ⟨_, .mk ⟨k, n, m, sc, done⟩ v3 v inner fp (own_move h.o3 (fun b hb => hW b ?_)) (own_move h.o4 (fun b hb => hW b ?_)) (h.tr.move _ (fun b hb => hW b ?_)), h.nd, fun b hb => ?_⟩
  · have := hge b (by simp [obs_mem, hb]); omega
  · have := hge b (by simp [obs_mem, hb]); omega
  · have := hge b (by simp [hb]); omega
  · have := hge b hb; omega
end
theorem st5 {W : World} {g : Nat} {t : TypeId} {a0 a1 a2 a3 a4 : Value} (h : W.heap[g]? = some (.cells #[a0, a1, a2, a3, a4] t (0, 0))) (b0 b1 b2 b3 b4 : Value) :
    (((((W.setCell ⟨g, 0, none⟩ b0).setCell ⟨g, 1, none⟩ b1).setCell ⟨g, 2, none⟩ b2).setCell ⟨g, 3, none⟩ b3).setCell ⟨g, 4, none⟩ b4).heap[g]? = some (.cells #[b0, b1, b2, b3, b4] t (0, 0)) ∧
    (∀ k, k ≠ g → (((((W.setCell ⟨g, 0, none⟩ b0).setCell ⟨g, 1, none⟩ b1).setCell ⟨g, 2, none⟩ b2).setCell ⟨g, 3, none⟩ b3).setCell ⟨g, 4, none⟩ b4).heap[k]? = W.heap[k]?) ∧
    (∀ (B : Nat) (a : World), Below B a W → B ≤ g → Below B a (((((W.setCell ⟨g, 0, none⟩ b0).setCell ⟨g, 1, none⟩ b1).setCell ⟨g, 2, none⟩ b2).setCell ⟨g, 3, none⟩ b3).setCell ⟨g, 4, none⟩ b4)) := by
  refine ⟨?_, fun k hk => ?_, fun B a h hg => ?_⟩
  · have s0 := blk_set h 0 b0
    have s1 := blk_set s0 1 b1
    have s2 := blk_set s1 2 b2
    have s3 := blk_set s2 3 b3
    have s4 := blk_set s3 4 b4
    simpa using s4
  · rw [Below.heap_setCell _ _ _ _ (by exact hk), Below.heap_setCell _ _ _ _ (by exact hk), Below.heap_setCell _ _ _ _ (by exact hk), Below.heap_setCell _ _ _ _ (by exact hk), Below.heap_setCell _ _ _ _ (by exact hk)]
  · exact ((((h.setCell (p := ⟨g, _, none⟩) hg _).setCell (p := ⟨g, _, none⟩) hg _).setCell (p := ⟨g, _, none⟩) hg _).setCell (p := ⟨g, _, none⟩) hg _).setCell (p := ⟨g, _, none⟩) hg _
/-- The form's variable is laid: no part is done yet. -/
theorem Cp.start {w w5 wz W : World} {O1 O2 : Obj} {g3 : Nat} {k m : Int} {n : ByteArray} {sc : List Int} {v3 : Value} {ok : Nat → Prop} (hk1 : w5.heap[w.heap.size]? = some O1) (hk2 : w5.heap[w.heap.size + 1]? = some O2) (hb0 : Below w.heap.size w w5) (hsz : w.heap.size + 2 ≤ w5.heap.size)
    (hbz : Below w5.heap.size w5 wz) (ho3 : kI.R 3 wz w5.heap.size ok v3 sc) (hg3 : w5.heap.size ≤ g3) (hne : some g3 ≠ v3.ownBlock) (hW : W.heap[g3]? = some (.cells #[.int .i64 k, .string n, .int .i64 m, v3, .slice none 0 0] 26 (0, 0)))
    (hWo : ∀ b, b ≠ g3 → W.heap[b]? = wz.heap[b]?) (hWb : Below w5.heap.size w5 W) : Cp w O1 O2 g3 k n m sc [] v3 (.slice none 0 0) [] [] W := by
  have h1 := blk_lt hk2
  have hb := Kd.R_base ho3
  refine ⟨⟨hb0.trans (hWb.mono hb0.size), blk_below hk1 hWb, blk_below hk2 hWb, hW, by omega⟩, own_move (own_weaken (Kd.own_of_R ho3) (Nat.zero_le _)) (fun b hb2 => hWo b (fun e => hne (by rw [← e, hb2]))), by simp [World.ownsRow], .nil, ?_, fun b hb2 => ?_⟩
  · rw [show obs v3 ++ (obs (Value.slice none 0 0) ++ []) = obs v3 from by simp [obs, Value.ownBlock]]
    unfold obs
    cases v3.ownBlock <;> simp
  · have hb3 : b ∈ obs v3 := by simpa [obs, Value.ownBlock] using hb2
    have := hb b (obs_mem.1 hb3)
    exact ⟨by omega, fun e => hne (by rw [← e, obs_mem.1 hb3])⟩
end Go.Proofs.YteeepenncddnjaaDoor
end
section
namespace Go.Proofs.YteeepenncddnjaaDoor
set_option linter.unusedVariables false
mutual
/-- A form without scopes. -/
def Fm.bare : Fm → Fm
  | ⟨a, b, c, _, ks⟩ => ⟨a, b, c, [], bareL ks⟩
def bareL : List Fm → List Fm
  | [] => []
  | k :: ks => k.bare :: bareL ks
end
end Go.Proofs.YteeepenncddnjaaDoor
end
section
namespace Go.Proofs.YteeepenncddnjaaDoor
open Go.RowKit Go.Proofs.YteeepenncddnjaaDoorW.PrintWords Go.Proofs.YteeepenncddnjaaDoorW.PrintLast Go.Proofs.YteeepenncddnjaaDoorW.PrintMore
set_option linter.unusedVariables false
set_option linter.unusedSimpArgs false
theorem scTot (x : Fm) : x.f3.length ≤ x.tot := by
  have := x.tot_eq; omega
set_option maxHeartbeats 4000000 in
set_option maxRecDepth 100000 in
theorem l1Copy_any : ∀ x : Fm, ∀ (A3 : Option Addr) (c3 : Nat) (A4 : Option Addr) (c4 : Nat) (w : World), FmIn w x A3 c3 A4 c4 → x.tot ≤ 1000000000 →
    Calls Tryd.prog 61 #[.agg #[.int .i64 x.f0, .string x.f1, .int .i64 x.f2, .slice A3 x.f3.length c3, .slice A4 x.f4.length c4]] w (RetF w x) := by
  intro x
  induction x using Fm.ind with
  | h x ih =>
    intro A3 c3 A4 c4 w hin ht
    have hmax := hin.g4.2.1
    have HI := Lib.hid hin
    have HT := Lib.hid ht
    have IH := Lib.hid ih
    clear hin ht ih
    go_enter Tryd.func61, Tryd.ntmps61
    go_wp2_with fail
    obtain ⟨kb1, kb2, hb0⟩ := two_new (w := w) (O1 := (.cells #[.int .i64 x.f0, .string x.f1, .int .i64 x.f2, .slice A3 x.f3.length c3, .slice A4 x.f4.length c4] 26)) (O2 := (.cells #[.int .i64 0, .string ⟨#[]⟩, .int .i64 0, .slice none 0 0, .slice none 0 0] 26)) (Below.refl _ _).drew
    obtain ⟨p0, p1, p2, p3, p4⟩ := fm_cells kb1
    refine start_ (n := 13) (S := fun w' => w'.cell? ⟨w.heap.size, 0, none⟩ = some (.int .i64 x.f0) ∧ w'.cell? ⟨w.heap.size, 1, none⟩ = some (.string x.f1) ∧ w'.cell? ⟨w.heap.size, 2, none⟩ = some (.int .i64 x.f2) ∧ w'.cell? ⟨w.heap.size, 3, none⟩ = some (.slice A3 x.f3.length c3)) (ds := []) #[false, false, false, false, false, false, false, false, false, false, false, false, false] (by kernel_rfl) rfl rfl ⟨p0, p1, p2, p3⟩ (fun hHeld => ?_)
    have hsz : w.heap.size + 2 ≤ (((w.alloc (.cells #[.int .i64 x.f0, .string x.f1, .int .i64 x.f2, .slice A3 x.f3.length c3, .slice A4 x.f4.length c4] 26)).alloc (.cells #[.int .i64 0, .string ⟨#[]⟩, .int .i64 0, .slice none 0 0, .slice none 0 0] 26)).drew).heap.size := by simp
    generalize World.drew _ = w5 at kb1 kb2 hb0 hsz p0 p1 p2 p3 p4 hHeld ⊢
    have P0 := Lib.hid p0
    have P1 := Lib.hid p1
    have P2 := Lib.hid p2
    have P3 := Lib.hid p3
    have KB1 := Lib.hid kb1
    have KB2 := Lib.hid kb2
    have HB0 := Lib.hid hb0
    have HSZ := Lib.hid hsz
    clear p0 p1 p2 p3 p4 kb1 kb2 hb0 hsz
    refine pure_ (i := 0) (N := some 5) (v := ?_) (a' := ?_) #[true, false, false, false, false, false, false, false, false, false, false, false, false] rfl rfl (by kernel_rfl) (fun _ _ _ h => h) (Or.inl ⟨by rfl, ?_⟩) ?_ ?_
    rotate_left
    · intro w'
      go_simp
      with_reducible rfl
    rotate_left
    · simp only [Act.put, List.setIfInBounds_toArray, List.set_cons_zero, List.set_cons_succ, i64_w, i32_w]
      rfl
    refine pure_ (i := 2) (N := some 7) (v := ?_) (a' := ?_) #[true, false, true, false, false, false, false, false, false, false, false, false, false] rfl rfl (by kernel_rfl) (fun _ _ _ h => h) (Or.inl ⟨by rfl, ?_⟩) ?_ ?_
    rotate_left
    · intro w'
      go_simp
      with_reducible rfl
    rotate_left
    · simp only [Act.put, List.setIfInBounds_toArray, List.set_cons_zero, List.set_cons_succ, i64_w, i32_w]
      rfl
    refine pure_ (i := 4) (N := some 9) (v := ?_) (a' := ?_) #[true, false, true, false, true, false, false, false, false, false, false, false, false] rfl rfl (by kernel_rfl) (fun _ _ _ h => h) (Or.inl ⟨by rfl, ?_⟩) ?_ ?_
    rotate_left
    · intro w'
      go_simp
      with_reducible rfl
    rotate_left
    · simp only [Act.put, List.setIfInBounds_toArray, List.set_cons_zero, List.set_cons_succ, i64_w, i32_w]
      rfl
    refine pure_ (i := 7) (N := some 12) (v := ?_) (a' := ?_) #[true, false, true, false, true, false, false, true, false, false, false, false, false] rfl rfl (by kernel_rfl) (fun _ _ _ h => h) (Or.inl ⟨by rfl, ?_⟩) ?_ ?_
    rotate_left
    · intro w'
      go_simp
      with_reducible rfl
    rotate_left
    · simp only [Act.put, List.setIfInBounds_toArray, List.set_cons_zero, List.set_cons_succ, i64_w, i32_w]
      rfl
    refine take_ (i := 1) (N := some 6) (v := ?_) (a' := ?_) #[true, true, true, false, true, false, false, true, false, false, false, false, false] rfl rfl (by kernel_rfl) (fun _ _ _ h => h) (Or.inl ⟨by rfl, ?_⟩) hHeld ?_ ?_
    rotate_left
    · rintro w' ⟨s0, s1, s2, s3⟩
      go_simp
      with_reducible rfl
    rotate_left
    · simp only [Act.put, List.setIfInBounds_toArray, List.set_cons_zero, List.set_cons_succ, i64_w, i32_w]
      rfl
    refine take_ (i := 3) (N := some 8) (v := ?_) (a' := ?_) #[true, true, true, true, true, false, false, true, false, false, false, false, false] rfl rfl (by kernel_rfl) (fun _ _ _ h => h) (Or.inl ⟨by rfl, ?_⟩) hHeld ?_ ?_
    rotate_left
    · rintro w' ⟨s0, s1, s2, s3⟩
      go_simp
      with_reducible rfl
    rotate_left
    · simp only [Act.put, List.setIfInBounds_toArray, List.set_cons_zero, List.set_cons_succ, i64_w, i32_w]
      rfl
    refine take_ (i := 5) (N := some 10) (v := ?_) (a' := ?_) #[true, true, true, true, true, true, false, true, false, false, false, false, false] rfl rfl (by kernel_rfl) (fun _ _ _ h => h) (Or.inl ⟨by rfl, ?_⟩) hHeld ?_ ?_
    rotate_left
    · rintro w' ⟨s0, s1, s2, s3⟩
      go_simp
      with_reducible rfl
    rotate_left
    · simp only [Act.put, List.setIfInBounds_toArray, List.set_cons_zero, List.set_cons_succ, i64_w, i32_w]
      rfl
    refine take_ (i := 8) (N := some 13) (v := ?_) (a' := ?_) #[true, true, true, true, true, true, false, true, true, false, false, false, false] rfl rfl (by kernel_rfl) (fun _ _ _ h => h) (Or.inl ⟨by rfl, ?_⟩) hHeld ?_ ?_
    rotate_left
    · rintro w' ⟨s0, s1, s2, s3⟩
      go_simp
      with_reducible rfl
    rotate_left
    · simp only [Act.put, List.setIfInBounds_toArray, List.set_cons_zero, List.set_cons_succ, i64_w, i32_w]
      rfl
    refine join_ (σ := Value × Value × Nat) 1 #[true, true, true, true, true, true, true, true, true, true, true, true, false] (fun s_ => [(11, s_.1), (14, s_.2.1), (3, .pointer (some ⟨s_.2.2, 0, none⟩)), (15, .agg #[.int .i64 x.f0, .string x.f1, .int .i64 x.f2, s_.2.1, .slice none 0 0])]) (fun s_ w' => Below w5.heap.size w5 w' ∧ kI.R 3 w' w5.heap.size (fun _ => True) s_.2.1 x.f3 ∧ w'.heap[s_.2.2]? = some (.cells #[.int .i64 0, .string ⟨#[]⟩, .int .i64 0, .slice none 0 0, .slice none 0 0] 26) ∧ w5.heap.size ≤ s_.2.2) ?_ ?_
    rotate_left
    · intro hCont
      refine two_ (i := 6) (j := 11) (Ni := some 11) (Nj := some 3) #[true, true, true, true, true, true, true, true, true, false, false, false, false] #[true, true, true, true, true, true, false, true, true, false, false, true, false] rfl rfl rfl rfl (by kernel_rfl) (by decide) (by decide) (fun K hK => ?_) (fun K hK => ?_)
      · refine Kd.R_lit_step (Kd.int .i64) _ 3 ?hg (N := 11) ?hd (xs := ([] : List Int)) (inner := []) (ok := fun _ => True) (okp := fun _ => True) ?hr ?hp (fun _ hk => hk) trivial (Below.refl _ _) (Nat.le_refl _) (by simp) ?_; (case hd => rfl); (case hg => rfl); (case hr => first | (go_simp; done) | (go_simp; rfl)); (case hp => exact (Reps.none _ _))
        intro v0 w6 ho0 hb6 hg6 hn6
        clear hg6 hn6
        refine hK.out _ _ ⟨ck0 hb6 P0.out, ck0 hb6 P1.out, ck0 hb6 P2.out, ck0 hb6 P3.out⟩ (fun hHeld => ?_)
        clear hK K
        refine norm_ (a' := ?_) ?_ ?_
        rotate_left
        · show Act.put _ (some 11) _ = _
          simp only [Act.put, List.setIfInBounds_toArray, List.set_cons_zero, List.set_cons_succ, i64_w, i32_w]
          rfl
        refine two_ (i := 9) (j := 11) (Ni := some 14) (Nj := some 3) #[true, true, true, true, true, true, true, true, true, true, false, false, false] #[true, true, true, true, true, true, true, true, true, false, false, true, false] rfl rfl rfl rfl (by kernel_rfl) (by decide) (by decide) (fun K hK => ?_) (fun K hK => ?_)
        · refine Kd.R_append_rows_step (Kd.int .i64) (w0 := w5) w5.heap.size (by rfl) (.tmp 11) (.tmp 13) 23 3 (.int .i64 0) 8 rfl Tryd.underlying23 infoI rfl (by decide) (by omega) v0 [] x.f3 _ _ _ (fun _ => True) (fun _ => False) rfl rfl ho0 (Kd.C_below HI.out.g3 (below_step HB0.out hb6)) (fun _ _ h => h) (fun _ h => h.elim) (fun _ _ => trivial) hb6 hb6.size (by have := HT.out; have := scTot x; simp; omega) ?_
          intro v3 w7 ho3 hb7 hg7 hat7
          rw [List.nil_append] at ho3
          obtain ⟨D3, e3, rfl⟩ := Kd.R_slice ho3
          refine hK.out _ _ ⟨ck0 hb7 P0.out, ck0 hb7 P1.out, ck0 hb7 P2.out, ck0 hb7 P3.out⟩ (fun hHeld => ?_)
          clear hK K
          refine norm_ (a' := ?_) ?_ ?_
          rotate_left
          · show Act.put _ (some 14) _ = _
            simp only [Act.put, List.setIfInBounds_toArray, List.set_cons_zero, List.set_cons_succ, i64_w, i32_w]
            rfl
          refine pure_ (i := 10) (N := some 15) (v := ?_) (a' := ?_) #[true, true, true, true, true, true, true, true, true, true, true, false, false] rfl rfl (by kernel_rfl) (fun _ _ _ h => h) (Or.inl ⟨by rfl, ?_⟩) ?_ ?_
          rotate_left
          · intro w'
            go_simp
            with_reducible rfl
          rotate_left
          · simp only [Act.put, List.setIfInBounds_toArray, List.set_cons_zero, List.set_cons_succ, i64_w, i32_w]
            rfl
          refine one_ (i := 11) (N := some 3) #[true, true, true, true, true, true, true, true, true, true, true, true, false] rfl rfl (by kernel_rfl) (by decide) (fun K hK => ?_)
          refine box_step ?hg (N := 3) ?hd (cs := #[.int .i64 0, .string ⟨#[]⟩, .int .i64 0, .slice none 0 0, .slice none 0 0]) (t := 26) ?hr ?_; (case hd => rfl); (case hg => rfl); (case hr => first | (go_simp; done) | (go_simp; rfl))
          intro g3 hg w8 hbox hb8
          have hb9 := below_step hb7 hb8
          refine hK.out _ _ ⟨ck0 hb9 P0.out, ck0 hb9 P1.out, ck0 hb9 P2.out, ck0 hb9 P3.out⟩ (fun hHeld => ?_)
          clear hK K
          refine norm_ (a' := ?_) ?_ ?_
          rotate_left
          · show Act.put _ (some 3) _ = _
            simp only [Act.put, List.setIfInBounds_toArray, List.set_cons_zero, List.set_cons_succ, i64_w, i32_w]
            rfl
          exact norm_ (by simp only [putAll, Act.put, List.setIfInBounds_toArray, List.set_cons_zero, List.set_cons_succ]) (hCont (v0, .slice D3 x.f3.length e3, g3) _ ⟨hb9, Kd.R_below ho3 hb8, hbox, hg ▸ hb7.size⟩)
        · refine box_step ?hg (N := 3) ?hd (cs := #[.int .i64 0, .string ⟨#[]⟩, .int .i64 0, .slice none 0 0, .slice none 0 0]) (t := 26) ?hr ?_; (case hd => rfl); (case hg => rfl); (case hr => first | (go_simp; done) | (go_simp; rfl))
          intro g3 hg w7 hbox hb7
          have hb8 := below_step hb6 hb7
          have ho8 := Kd.R_below ho0 hb7
          have hne := Kd.R_ne ho8 hbox (by decide)
          refine hK.out _ _ ⟨ck0 hb8 P0.out, ck0 hb8 P1.out, ck0 hb8 P2.out, ck0 hb8 P3.out⟩ (fun hHeld => ?_)
          clear hK K
          refine norm_ (a' := ?_) ?_ ?_
          rotate_left
          · show Act.put _ (some 3) _ = _
            simp only [Act.put, List.setIfInBounds_toArray, List.set_cons_zero, List.set_cons_succ, i64_w, i32_w]
            rfl
          refine one_ (i := 9) (N := some 14) #[true, true, true, true, true, true, true, true, true, true, false, true, false] rfl rfl (by kernel_rfl) (by decide) (fun K hK => ?_)
          refine Kd.R_append_rows_step (Kd.int .i64) (w0 := w5) w5.heap.size (by rfl) (.tmp 11) (.tmp 13) 23 3 (.int .i64 0) 8 rfl Tryd.underlying23 infoI rfl (by decide) (by omega) v0 [] x.f3 _ _ _ (fun _ => True) (fun _ => False) rfl rfl ho8 (Kd.C_below HI.out.g3 (below_step HB0.out hb8)) (fun _ _ h => h) (fun _ h => h.elim) (fun _ _ => trivial) hb8 hb8.size (by have := HT.out; have := scTot x; simp; omega) ?_
          intro v3 w9 ho3 hb9 hg9 hat9
          rw [List.nil_append] at ho3
          obtain ⟨D3, e3, rfl⟩ := Kd.R_slice ho3
          refine hK.out _ _ ⟨ck0 hb9 P0.out, ck0 hb9 P1.out, ck0 hb9 P2.out, ck0 hb9 P3.out⟩ (fun hHeld => ?_)
          clear hK K
          refine norm_ (a' := ?_) ?_ ?_
          rotate_left
          · show Act.put _ (some 14) _ = _
            simp only [Act.put, List.setIfInBounds_toArray, List.set_cons_zero, List.set_cons_succ, i64_w, i32_w]
            rfl
          refine pure_ (i := 10) (N := some 15) (v := ?_) (a' := ?_) #[true, true, true, true, true, true, true, true, true, true, true, true, false] rfl rfl (by kernel_rfl) (fun _ _ _ h => h) (Or.inl ⟨by rfl, ?_⟩) ?_ ?_
          rotate_left
          · intro w'
            go_simp
            with_reducible rfl
          rotate_left
          · simp only [Act.put, List.setIfInBounds_toArray, List.set_cons_zero, List.set_cons_succ, i64_w, i32_w]
            rfl
          exact norm_ (by simp only [putAll, Act.put, List.setIfInBounds_toArray, List.set_cons_zero, List.set_cons_succ]) (hCont (v0, .slice D3 x.f3.length e3, g3) _ ⟨hb9, ho3, blk_grown hbox hg9 hne, hg ▸ hb6.size⟩)
      · refine box_step ?hg (N := 3) ?hd (cs := #[.int .i64 0, .string ⟨#[]⟩, .int .i64 0, .slice none 0 0, .slice none 0 0]) (t := 26) ?hr ?_; (case hd => rfl); (case hg => rfl); (case hr => first | (go_simp; done) | (go_simp; rfl))
        intro g3 hg w6 hbox hb6
        refine hK.out _ _ ⟨ck0 hb6 P0.out, ck0 hb6 P1.out, ck0 hb6 P2.out, ck0 hb6 P3.out⟩ (fun hHeld => ?_)
        clear hK K
        refine norm_ (a' := ?_) ?_ ?_
        rotate_left
        · show Act.put _ (some 3) _ = _
          simp only [Act.put, List.setIfInBounds_toArray, List.set_cons_zero, List.set_cons_succ, i64_w, i32_w]
          rfl
        refine one_ (i := 6) (N := some 11) #[true, true, true, true, true, true, true, true, true, false, false, true, false] rfl rfl (by kernel_rfl) (by decide) (fun K hK => ?_)
        refine Kd.R_lit_step (Kd.int .i64) _ 3 ?hg (N := 11) ?hd (xs := ([] : List Int)) (inner := []) (ok := fun _ => True) (okp := fun _ => True) ?hr ?hp (fun _ hk => hk) trivial (Below.refl _ _) (Nat.le_refl _) (by simp) ?_; (case hd => rfl); (case hg => rfl); (case hr => first | (go_simp; done) | (go_simp; rfl)); (case hp => exact (Reps.none _ _))
        intro v0 w7 ho0 hb7 hg7 hn7
        have hbox7 := blk_below hbox hb7
        have hb8 := below_step hb6 hb7
        have ho8 := Kd.R_lower ho0 hb6.size
        have hne := Kd.R_ne ho0 hbox7 (by decide)
        refine hK.out _ _ ⟨ck0 hb8 P0.out, ck0 hb8 P1.out, ck0 hb8 P2.out, ck0 hb8 P3.out⟩ (fun hHeld => ?_)
        clear hK K
        refine norm_ (a' := ?_) ?_ ?_
        rotate_left
        · show Act.put _ (some 11) _ = _
          simp only [Act.put, List.setIfInBounds_toArray, List.set_cons_zero, List.set_cons_succ, i64_w, i32_w]
          rfl
        refine one_ (i := 9) (N := some 14) #[true, true, true, true, true, true, true, true, true, true, false, true, false] rfl rfl (by kernel_rfl) (by decide) (fun K hK => ?_)
        refine Kd.R_append_rows_step (Kd.int .i64) (w0 := w5) w5.heap.size (by rfl) (.tmp 11) (.tmp 13) 23 3 (.int .i64 0) 8 rfl Tryd.underlying23 infoI rfl (by decide) (by omega) v0 [] x.f3 _ _ _ (fun _ => True) (fun _ => False) rfl rfl ho8 (Kd.C_below HI.out.g3 (below_step HB0.out hb8)) (fun _ _ h => h) (fun _ h => h.elim) (fun _ _ => trivial) hb8 hb8.size (by have := HT.out; have := scTot x; simp; omega) ?_
        intro v3 w9 ho3 hb9 hg9 hat9
        rw [List.nil_append] at ho3
        obtain ⟨D3, e3, rfl⟩ := Kd.R_slice ho3
        refine hK.out _ _ ⟨ck0 hb9 P0.out, ck0 hb9 P1.out, ck0 hb9 P2.out, ck0 hb9 P3.out⟩ (fun hHeld => ?_)
        clear hK K
        refine norm_ (a' := ?_) ?_ ?_
        rotate_left
        · show Act.put _ (some 14) _ = _
          simp only [Act.put, List.setIfInBounds_toArray, List.set_cons_zero, List.set_cons_succ, i64_w, i32_w]
          rfl
        refine pure_ (i := 10) (N := some 15) (v := ?_) (a' := ?_) #[true, true, true, true, true, true, true, true, true, true, true, true, false] rfl rfl (by kernel_rfl) (fun _ _ _ h => h) (Or.inl ⟨by rfl, ?_⟩) ?_ ?_
        rotate_left
        · intro w'
          go_simp
          with_reducible rfl
        rotate_left
        · simp only [Act.put, List.setIfInBounds_toArray, List.set_cons_zero, List.set_cons_succ, i64_w, i32_w]
          rfl
        exact norm_ (by simp only [putAll, Act.put, List.setIfInBounds_toArray, List.set_cons_zero, List.set_cons_succ]) (hCont (v0, .slice D3 x.f3.length e3, g3) _ ⟨hb9, ho3, blk_grown hbox7 hg9 hne, Nat.le_of_eq hg.symm⟩)
    rintro ⟨v0, v3, g3⟩ wz ⟨hbz, ho3, hbox, hg3⟩
    dsimp only at ho3 hbox hg3
    have hHeld : True := trivial
    refine norm_ (a' := ?_) ?_ ?_
    rotate_left
    · simp only [putAll, Act.put, List.setIfInBounds_toArray, List.set_cons_zero, List.set_cons_succ]
      rfl
    have K1z := blk_below KB1.out hbz
    have hl1 := blk_lt KB1.out
    have hne3 := Kd.R_ne ho3 hbox (by decide)
    obtain ⟨D3, e3, rfl⟩ := Kd.R_slice ho3
    obtain ⟨st1, st2, st3⟩ := st5 hbox (.int .i64 x.f0) (.string x.f1) (.int .i64 x.f2) (.slice D3 x.f3.length e3) (.slice none 0 0)
    have hS5 := fm_cells ((st2 w.heap.size (by omega)).trans K1z)
    have HCP := Lib.hid (Cp.start (w := w) KB1.out KB2.out HB0.out HSZ.out hbz ho3 hg3 hne3 st1 st2 (st3 _ _ hbz hg3))
    obtain ⟨z0, z1, z2, z3, z4⟩ := fm_cells hbox
    obtain ⟨f0, f1, f2, f3, f4⟩ := fm_free hbox
    clear hbz ho3 hbox hg3 K1z hl1 hne3 st1 st2 st3 KB1 KB2 HB0 HSZ P0 P1 P2 P3
    refine one_ (i := 12) (N := none) #[true, true, true, true, true, true, true, true, true, true, true, true, true] rfl rfl (by kernel_rfl) (by decide) (fun K hK => ?_)
    refine skip_ (w1 := ?_) (by rfl) rfl ?_ ?_
    rotate_left
    · go_simp
      rfl
    refine hK.out _ _ ⟨hS5.1, hS5.2.1, hS5.2.2.1, hS5.2.2.2.1⟩ (fun hHeld => ?_)
    clear hK K z0 z1 z2 z3 z4 f0 f1 f2 f3 f4 hS5
    refine done_ (by kernel_rfl) ?_
    try go_wp2_with fail
    go_loopg [4] x.f4.length (fun kq v4 w' => ∃ i : Nat, i ≤ x.f4.length ∧ x.f4.length - i ≤ kq ∧ v4 = .int .i64 i ∧ Aside0 (∃ v inner fp, Cp w (.cells #[.int .i64 x.f0, .string x.f1, .int .i64 x.f2, .slice A3 x.f3.length c3, .slice A4 x.f4.length c4] 26) (.cells #[.int .i64 0, .string ⟨#[]⟩, .int .i64 0, .slice none 0 0, .slice none 0 0] 26) g3 x.f0 x.f1 x.f2 x.f3 (x.f4.take i) (.slice D3 x.f3.length e3) v inner fp w'))
    case atStart => exact ⟨0, Nat.zero_le _, by omega, rfl, ⟨⟨.slice none 0 0, [], [], by simpa using HCP.out⟩⟩⟩
    case round =>
      obtain ⟨i, hi, hg, rfl, HO⟩ := hrel
      by_cases hlt : i < x.f4.length
      · obtain ⟨v, inner, fp, hC⟩ := HO.out
        obtain ⟨p0, p1, p2, p3, p4⟩ := fm_cells hC.fr.k1
        obtain ⟨ad, G3, m3, G4, m4, e, g0, g1, g2, g3_, g4, hk⟩ := kid_at HI.out.g4 i hlt
        subst e
        have hkt := totL_mem (List.getElem_mem hlt)
        have hxt := HT.out
        rw [Fm.tot_eq] at hxt
        have r1 : (0 : Int) ≤ (i : Int) := by omega
        have r2 : (i : Int) < (x.f4.length : Int) := by omega
        have hlen := len_totL x.f4
        have HKT := Lib.hid (show x.f4[i].tot ≤ 1000000000 by omega)
        have HLN := Lib.hid (show x.f4.length ≤ 1000000000 by omega)
        have HK := Lib.hid hk
        have HC := Lib.hid hC
        have SK := Lib.hid (fun (W : World) (hf : Fr w (.cells #[.int .i64 x.f0, .string x.f1, .int .i64 x.f2, .slice A3 x.f3.length c3, .slice (some ad) x.f4.length c4] 26) (.cells #[.int .i64 0, .string ⟨#[]⟩, .int .i64 0, .slice none 0 0, .slice none 0 0] 26) g3 #[.int .i64 x.f0, .string x.f1, .int .i64 x.f2, (.slice D3 x.f3.length e3), v] W) => (⟨(fm_cells hf.k1).2.2.2.2, (fm_cells hf.k3).2.2.2.2, ck0 hf.b g0, ck0 hf.b g1, ck0 hf.b g2, ck0 hf.b g3_, ck0 hf.b g4⟩ : (fun w' => w'.cell? ⟨w.heap.size, 4, none⟩ = some (.slice (some ad) x.f4.length c4) ∧ w'.cell? ⟨g3, 4, none⟩ = some v ∧ w'.cell? (ad.add (i * 5)) = some (.int .i64 x.f4[i].f0) ∧ w'.cell? ⟨(ad.add (i * 5)).block, (ad.add (i * 5)).off + 1, none⟩ = some (.string x.f4[i].f1) ∧ w'.cell? ⟨(ad.add (i * 5)).block, (ad.add (i * 5)).off + 2, none⟩ = some (.int .i64 x.f4[i].f2) ∧ w'.cell? ⟨(ad.add (i * 5)).block, (ad.add (i * 5)).off + 3, none⟩ = some (.slice G3 x.f4[i].f3.length m3) ∧ w'.cell? ⟨(ad.add (i * 5)).block, (ad.add (i * 5)).off + 4, none⟩ = some (.slice G4 x.f4[i].f4.length m4)) W))
        clear hC hk p0 p1 p2 p3 hkt hxt hlen g0 g1 g2 g3_ g4
        go_wp2_with fail
        have HD := Lib.hid (HC.out.later (below_drew (Below.refl _ _)))
        refine start_ (n := 12) (S := fun w' => w'.cell? ⟨w.heap.size, 4, none⟩ = some (.slice (some ad) x.f4.length c4) ∧ w'.cell? ⟨g3, 4, none⟩ = some v ∧ w'.cell? (ad.add (i * 5)) = some (.int .i64 x.f4[i].f0) ∧ w'.cell? ⟨(ad.add (i * 5)).block, (ad.add (i * 5)).off + 1, none⟩ = some (.string x.f4[i].f1) ∧ w'.cell? ⟨(ad.add (i * 5)).block, (ad.add (i * 5)).off + 2, none⟩ = some (.int .i64 x.f4[i].f2) ∧ w'.cell? ⟨(ad.add (i * 5)).block, (ad.add (i * 5)).off + 3, none⟩ = some (.slice G3 x.f4[i].f3.length m3) ∧ w'.cell? ⟨(ad.add (i * 5)).block, (ad.add (i * 5)).off + 4, none⟩ = some (.slice G4 x.f4[i].f4.length m4)) (ds := [11]) #[false, false, false, false, false, false, false, false, false, false, false, false] (by kernel_rfl) rfl rfl (SK.out _ HD.out.fr) (fun hHeld => ?_)
        clear p4
        generalize wr.drew = wd at HD hHeld ⊢
        refine pure_ (i := 0) (N := some 23) (v := ?_) (a' := ?_) #[true, false, false, false, false, false, false, false, false, false, false, false] rfl rfl (by kernel_rfl) (fun _ _ _ h => h) (Or.inl ⟨by rfl, ?_⟩) ?_ ?_
        rotate_left
        · intro w'
          go_simp
          with_reducible rfl
        rotate_left
        · simp only [Act.put, List.setIfInBounds_toArray, List.set_cons_zero, List.set_cons_succ, i64_w, i32_w]
          rfl
        refine pure_ (i := 2) (N := some 25) (v := ?_) (a' := ?_) #[true, false, true, false, false, false, false, false, false, false, false, false] rfl rfl (by kernel_rfl) (fun _ _ _ h => h) (Or.inl ⟨by rfl, ?_⟩) ?_ ?_
        rotate_left
        · intro w'
          go_simp
          with_reducible rfl
        rotate_left
        · simp only [Act.put, List.setIfInBounds_toArray, List.set_cons_zero, List.set_cons_succ, i64_w, i32_w]
          rfl
        refine pure_ (i := 4) (N := some 27) (v := ?_) (a' := ?_) #[true, false, true, false, true, false, false, false, false, false, false, false] rfl rfl (by kernel_rfl) (fun _ _ _ h => h) (Or.inl ⟨by rfl, ?_⟩) ?_ ?_
        rotate_left
        · intro w'
          go_simp
          with_reducible rfl
        rotate_left
        · simp only [Act.put, List.setIfInBounds_toArray, List.set_cons_zero, List.set_cons_succ, i64_w, i32_w]
          rfl
        refine take_ (i := 1) (N := some 24) (v := ?_) (a' := ?_) #[true, true, true, false, true, false, false, false, false, false, false, false] rfl rfl (by kernel_rfl) (fun _ _ _ h => h) (Or.inl ⟨by rfl, ?_⟩) hHeld ?_ ?_
        rotate_left
        · rintro w' ⟨s0, s1, s2, s3, s4, s5, s6⟩
          go_simp
          with_reducible rfl
        rotate_left
        · simp only [Act.put, List.setIfInBounds_toArray, List.set_cons_zero, List.set_cons_succ, i64_w, i32_w]
          rfl
        refine take_ (i := 3) (N := some 26) (v := ?_) (a' := ?_) #[true, true, true, true, true, false, false, false, false, false, false, false] rfl rfl (by kernel_rfl) (fun _ _ _ h => h) (Or.inl ⟨by rfl, ?_⟩) hHeld ?_ ?_
        rotate_left
        · rintro w' ⟨s0, s1, s2, s3, s4, s5, s6⟩
          go_simp
          with_reducible rfl
        rotate_left
        · simp only [Act.put, List.setIfInBounds_toArray, List.set_cons_zero, List.set_cons_succ, i64_w, i32_w]
          rfl
        refine pure_ (i := 5) (N := some 28) (v := ?_) (a' := ?_) #[true, true, true, true, true, true, false, false, false, false, false, false] rfl rfl (by kernel_rfl) (fun _ _ _ h => h) (Or.inl ⟨by rfl, ?_⟩) ?_ ?_
        rotate_left
        · intro w'
          go_simp
          with_reducible rfl
        rotate_left
        · simp only [Act.put, List.setIfInBounds_toArray, List.set_cons_zero, List.set_cons_succ, i64_w, i32_w]
          rfl
        refine take_ (i := 6) (N := some 29) (v := ?_) (a' := ?_) #[true, true, true, true, true, true, true, false, false, false, false, false] rfl rfl (by kernel_rfl) (fun _ _ _ h => h) (Or.inl ⟨by rfl, ?_⟩) hHeld ?_ ?_
        rotate_left
        · rintro w' ⟨s0, s1, s2, s3, s4, s5, s6⟩
          go_simp
          with_reducible rfl
        rotate_left
        · simp only [Act.put, List.setIfInBounds_toArray, List.set_cons_zero, List.set_cons_succ, i64_w, i32_w]
          rfl
        refine one_ (i := 7) (N := some 30) #[true, true, true, true, true, true, true, true, false, false, false, false] rfl rfl (by kernel_rfl) (by decide) (fun K hK => ?_)
        refine goes_ Tryd.func61 (by kernel_rfl) rfl #[.agg #[.int .i64 x.f4[i].f0, .string x.f4[i].f1, .int .i64 x.f4[i].f2, .slice G3 x.f4[i].f3.length m3, .slice G4 x.f4[i].f4.length m4]] (by rfl) rfl rfl (by (try simp only [List.map_toArray, List.map_cons, List.map_nil]); first | done | rfl) ?_
        refine (IH.out x.f4[i] (List.getElem_mem hlt) G3 m3 G4 m4 wd (HK.out.below HD.out.fr.b) HKT.out).mono ?_
        rintro e w7 ⟨u3, u4, rfl, hn, hb7⟩
        refine ⟨_, rfl, ?_⟩
        obtain ⟨J3, q3, J4, q4, rfl, rfl⟩ : ∃ J3 q3 J4 q4, u3 = .slice J3 (x.f4[i]).f3.length q3 ∧ u4 = .slice J4 (x.f4[i]).f4.length q4 := by
          obtain ⟨fk, hk2, _⟩ := hn
          obtain ⟨J3, q3, J4, q4, e3, e4, _⟩ := hk2.In
          exact ⟨J3, q3, J4, q4, e3, e4⟩
        have H7 := Lib.hid (HD.out.later hb7)
        have HN := Lib.hid hn
        have HLT := Lib.hid (And.intro HD.out.lt HD.out.fr.lt)
        clear hn hb7
        refine hK.out _ _ (SK.out _ H7.out.fr) (fun hHeld => ?_)
        clear hK K
        refine norm_ (a' := ?_) ?_ ?_
        rotate_left
        · show Act.put _ (some 30) _ = _
          simp only [Act.put, List.setIfInBounds_toArray, List.set_cons_zero, List.set_cons_succ, i64_w, i32_w]
          rfl
        refine one_ (i := 8) (N := some 31) #[true, true, true, true, true, true, true, true, true, false, false, false] rfl rfl (by kernel_rfl) (by decide) (fun K hK => ?_)
        refine value_ (w1 := ?_) (v := ?_) (by rfl) rfl ?_ ?_
        rotate_left 2
        · go_simp
          constructor
          · rfl
          · rfl
        refine hK.out _ _ (SK.out _ (H7.out.fr.later (below_new _ _))) (fun hHeld => ?_)
        clear hK K
        refine norm_ (a' := ?_) ?_ ?_
        rotate_left
        · show Act.put _ (some 31) _ = _
          simp only [Act.put, List.setIfInBounds_toArray, List.set_cons_zero, List.set_cons_succ, i64_w, i32_w]
          rfl
        refine one_ (i := 9) (N := some 32) #[true, true, true, true, true, true, true, true, true, true, false, false] rfl rfl (by kernel_rfl) (by decide) (fun K hK => ?_)
        have hl0 : (x.f4.take i).length = i := by simp; omega
        refine step_append_cells (w0 := w) (W := w7) w.heap.size (by rfl) (.tmp 24) (.tmp 31) 24 26 (.agg #[.int .i64 0, .string ⟨#[]⟩, .int .i64 0, .slice none 0 0, .slice none 0 0]) 5 80 rfl Tryd.underlying24 infoF rfl (by decide) (by omega) v (x.f4.take i).length inner [.int .i64 (x.f4[i]).f0, .string (x.f4[i]).f1, .int .i64 (x.f4[i]).f2, .slice J3 (x.f4[i]).f3.length q3, .slice J4 (x.f4[i]).f4.length q4] rfl rfl rfl (by simp [Value.oneCell']) (own_base_ H7.out.o4 (fun b hb => by have := (H7.out.ge b (by simp [obs_mem, hb])).1; omega)) H7.out.fr.b H7.out.fr.b.size (by have := HLN.out; rw [hl0]; omega) ?_
        intro v' w8 ho hb8 hg8 hat8
        obtain ⟨fp', hC8⟩ := H7.out.more HLT.out.1 HLT.out.2.2 HLT.out.2.1 HN.out (own_weaken ho (Nat.zero_le _)) hg8 hat8
        have hf8 := H7.out.fr.grown hg8 (fun c hc => H7.out.ge c (by simp [obs_mem, hc]))
        have hv' : ∃ A c, v' = .slice A ((x.f4.take i).length + 1) c := by
          rcases ho with ⟨_, ⟨rfl, h0⟩ | ⟨g, cap, cur, rfl, _⟩⟩
          · exact absurd h0 (by omega)
          · exact ⟨_, _, rfl⟩
        rw [hl0] at hv'
        obtain ⟨A', c', rfl⟩ := hv'
        have H8 := Lib.hid hf8
        have HC8 := Lib.hid hC8
        clear ho hb8 hg8 hat8 hf8 hC8
        refine hK.out _ _ (SK.out _ H8.out) (fun hHeld => ?_)
        clear hK K
        refine norm_ (a' := ?_) ?_ ?_
        rotate_left
        · show Act.put _ (some 32) _ = _
          simp only [Act.put, List.setIfInBounds_toArray, List.set_cons_zero, List.set_cons_succ, i64_w, i32_w]
          rfl
        refine pure_ (i := 10) (N := some 33) (v := ?_) (a' := ?_) #[true, true, true, true, true, true, true, true, true, true, true, false] rfl rfl (by kernel_rfl) (fun _ _ _ h => h) (Or.inl ⟨by rfl, ?_⟩) ?_ ?_
        rotate_left
        · intro w'
          go_simp
          with_reducible rfl
        rotate_left
        · simp only [Act.put, List.setIfInBounds_toArray, List.set_cons_zero, List.set_cons_succ, i64_w, i32_w]
          rfl
        refine last_ (i := 11) (N := none) #[true, true, true, true, true, true, true, true, true, true, true, true] rfl rfl (by kernel_rfl) (by decide) (fun K hK => ?_)
        have z4 := (fm_cells H8.out.k3).2.2.2.2
        have f4 := (fm_free H8.out.k3).2.2.2.2
        refine skip_ (w1 := ?_) (by rfl) rfl ?_ ?_
        rotate_left
        · go_simp
          rfl
        refine hK.out _ _ ?_
        clear hK K z4 f4
        refine done_ (by kernel_rfl) ?_
        have HX := Lib.hid (show x.f4.take i ++ [x.f4[i]] = x.f4.take (i + 1) from (List.take_succ_eq_append_getElem hlt).symm)
        rw [HX.out] at HC8
        try go_wp2
        go_roundg (x.f4.length - (i + 1))
        case measure => omega
        case rel => exact ⟨i + 1, by omega, Nat.le_refl _, by go_num, ⟨⟨_, _, _, HC8.out⟩⟩⟩
      · obtain rfl : i = x.f4.length := by omega
        obtain ⟨v, inner, fp, hC⟩ := HO.out
        rw [List.take_length] at hC
        obtain ⟨A4', c4', e4', -, -⟩ := hC.tr.C hC.o4
        subst e4'
        obtain ⟨p0, p1, p2, p3, p4⟩ := fm_cells hC.fr.k3
        obtain ⟨y0, y1, y2, y3, y4⟩ := fm_cells hC.fr.k1
        obtain ⟨z0, z1, z2, z3, z4⟩ := fm_cells hC.fr.k2
        obtain ⟨f0, f1, f2, f3, f4⟩ := fm_free hC.fr.k2
        have hn1 : g3 ≠ w.heap.size + 1 := by have := hC.fr.h3; omega
        have hn2 : w.heap.size + 1 ≠ g3 := fun e => hn1 e.symm
        obtain ⟨st1, st2, st3⟩ := st5 hC.fr.k2 (.int .i64 x.f0) (.string x.f1) (.int .i64 x.f2) (.slice D3 x.f3.length e3) (.slice A4' x.f4.length c4')
        have HNF := hC.newF (st2)
        rw [show (⟨x.f0, x.f1, x.f2, x.f3, x.f4⟩ : Fm) = x from by cases x; rfl] at HNF
        have HN := Lib.hid HNF
        have HB := Lib.hid (st3 _ _ hC.fr.b (by omega))
        clear hC HO st1 st2 st3 HNF
        go_wp2_with fail
        refine bodyPost_ret (v := .agg #[.int .i64 x.f0, .string x.f1, .int .i64 x.f2, (.slice D3 x.f3.length e3), .slice A4' x.f4.length c4']) (by simp [results, Tryd.results61, go_sem, z0, z1, z2, z3, z4]) rfl ?_
        exact ⟨_, _, rfl, HN.out, HB.out⟩
end Go.Proofs.YteeepenncddnjaaDoor
end
section
namespace Go.Proofs.YteeepenncddnjaaDoor
open Go.RowKit Go.Proofs.YteeepenncddnjaaDoorW.PrintWords Go.Proofs.YteeepenncddnjaaDoorW.PrintLast Go.Proofs.YteeepenncddnjaaDoorW.PrintMore
set_option linter.unusedVariables false
set_option linter.unusedSimpArgs false
end Go.Proofs.YteeepenncddnjaaDoor
end
section
namespace Go.Proofs.YteeepenncddnjaaDoor
open Go.RowKit Go.Proofs.YteeepenncddnjaaDoorW.PrintWords Go.Proofs.YteeepenncddnjaaDoorW.PrintLast Go.Proofs.YteeepenncddnjaaDoorW.PrintMore
set_option linter.unusedVariables false
set_option linter.unusedSimpArgs false
theorem RetF.T {w : World} {x : Fm} {e : Ending} {w' : World} (h : RetF w x e w') : ∃ v3 v4, e = .returned (.agg #[.int .i64 x.f0, .string x.f1, .int .i64 x.f2, v3, v4]) ∧ tellsNew.T w.heap.size w' x v3 v4 ∧ Below w.heap.size w w' := h
end Go.Proofs.YteeepenncddnjaaDoor
end
section
namespace Go.Proofs.YteeepenncddnjaaDoor
open Go.RowKit Go.Proofs.YteeepenncddnjaaDoorW.PrintWords Go.Proofs.YteeepenncddnjaaDoorW.PrintLast Go.Proofs.YteeepenncddnjaaDoorW.PrintMore
set_option linter.unusedVariables false
set_option linter.unusedSimpArgs false
@[reducible] def fmV (x : Fm) (A3 : Option Addr) (c3 : Nat) (A4 : Option Addr) (c4 : Nat) : Array Value := #[.int .i64 x.f0, .string x.f1, .int .i64 x.f2, .slice A3 x.f3.length c3, .slice A4 x.f4.length c4]
/-- A form is handed back. -/
def GetF (w : World) (x : Fm) (e : Ending) (w' : World) : Prop := ∃ A3 c3 A4 c4, e = .returned (.agg #[.int .i64 x.f0, .string x.f1, .int .i64 x.f2, .slice A3 x.f3.length c3, .slice A4 x.f4.length c4]) ∧ FmIn w' x A3 c3 A4 c4 ∧ Below w.heap.size w w'
/-- A form and another value are handed back. -/
def GetFV (w : World) (x : Fm) (v : Value) (e : Ending) (w' : World) : Prop := ∃ A3 c3 A4 c4, e = .returned (.tuple #[.agg #[.int .i64 x.f0, .string x.f1, .int .i64 x.f2, .slice A3 x.f3.length c3, .slice A4 x.f4.length c4], v]) ∧ FmIn w' x A3 c3 A4 c4 ∧ Below w.heap.size w w'
end Go.Proofs.YteeepenncddnjaaDoor
end
section
namespace Go.Proofs.YteeepenncddnjaaDoor
open Go.RowKit Go.Proofs.YteeepenncddnjaaDoorW.PrintWords Go.Proofs.YteeepenncddnjaaDoorW.PrintLast Go.Proofs.YteeepenncddnjaaDoorW.PrintMore
set_option linter.unusedVariables false
set_option linter.unusedSimpArgs false
theorem NewF.In {B : Nat} {w : World} {x : Fm} {v3 v4 : Value} (h : NewF B w x v3 v4) : ∃ A3 c3 A4 c4, v3 = .slice A3 x.f3.length c3 ∧ v4 = .slice A4 x.f4.length c4 ∧ FmIn w x A3 c3 A4 c4 := by
  obtain ⟨fp, ht, _, _⟩ := h
  exact ht.In
end Go.Proofs.YteeepenncddnjaaDoor
end
section
namespace Go.Proofs.YteeepenncddnjaaDoor.Q
open Go.RowKit Go.Proofs.YteeepenncddnjaaDoorW.PrintWords Go.Proofs.YteeepenncddnjaaDoorW.PrintLast Go.Proofs.YteeepenncddnjaaDoorW.PrintMore
attribute [local go_sem] max2_int min2_int max_two min_two max_three min_three max_four min_four   -- for this text's walks alone
set_option linter.unusedVariables false
set_option linter.unusedSimpArgs false

/-- A state of type 78 at block g of W; what its slices lead to came in by w0. -/
def IsS78 (w0 W : World) (g : Nat) (f0 : List Int) (f1 : Int) : Prop := ∃ A0 c0, W.heap[g]? = some (.cells #[.slice A0 f0.length c0, .int .i64 f1] 78 (0, 0)) ∧ w0.heap.size ≤ g ∧ Kd.C (Kd.int .u8) w0 A0 f0.length f0
theorem IsS78.grown {w0 W : World} {g : Nat} {f0 : List Int} {f1 : Int} {W1 : World} {row : Option Nat} (h : IsS78 w0 W g f0 f1) (hw : W.grownBy W1 row) (hne : some g ≠ row) : IsS78 w0 W1 g f0 f1 := by
  obtain ⟨A0, c0, hb, hg, hr0⟩ := h
  exact ⟨A0, c0, blk_grown hb hw hne, hg, hr0⟩
theorem IsS78.fresh {w0 W : World} {g : Nat} {f0 : List Int} {f1 : Int} (h : IsS78 w0 W g f0 f1) : ∀ k, W.heap.size ≤ k → k ≠ g := by
  obtain ⟨A0, c0, hb, hg, hr0⟩ := h
  exact Kd.freshB hb
theorem IsS78.kept {w0 W : World} {g : Nat} {f0 : List Int} {f1 : Int} {W1 : World} {S : Nat → Prop} (h : IsS78 w0 W g f0 f1) (hk : Kept W W1 S) (hne : ¬ S g) : IsS78 w0 W1 g f0 f1 := by
  obtain ⟨A0, c0, hb, hg, hr0⟩ := h
  exact ⟨A0, c0, blk_kept hb hk hne, hg, hr0⟩
theorem IsS78.below {w0 W : World} {g : Nat} {f0 : List Int} {f1 : Int} {W1 : World} (h : IsS78 w0 W g f0 f1) (hw : Below W.heap.size W W1) : IsS78 w0 W1 g f0 f1 := h.grown (grown_of_below hw none) (by simp)
theorem IsS78.alloc {w0 W : World} {g : Nat} {f0 : List Int} {f1 : Int} (h : IsS78 w0 W g f0 f1) (o : Obj) : IsS78 w0 (W.alloc o) g f0 f1 := h.below (below_alloc (Below.refl _ _) o)
theorem IsS78.drewN {w0 W : World} {g : Nat} {f0 : List Int} {f1 : Int} (h : IsS78 w0 W g f0 f1) (m : Nat) : IsS78 w0 (W.drewN m) g f0 f1 := h
theorem IsS78.drew {w0 W : World} {g : Nat} {f0 : List Int} {f1 : Int} (h : IsS78 w0 W g f0 f1) : IsS78 w0 W.drew g f0 f1 := h
theorem IsS78.at_ {w0 W : World} {g : Nat} {f0 : List Int} {f1 : Int} {w' : World} {m : Nat} (hq : W.drewN m = w') (h : IsS78 w0 W g f0 f1) : IsS78 w0 w' g f0 f1 := by subst hq; exact IsS78.drewN h m
theorem IsS78.apart {w0 W : World} {g : Nat} {f0 : List Int} {f1 : Int} {α : Type} {d : Kd α} {e : Nat} {base : Nat} {ok : Nat → Prop} {v : Value} {xs : List α} (h : IsS78 w0 W g f0 f1) (ho : d.R e W base ok v xs) (ht : ∀ q, q ∈ e :: d.E → q ≠ 78) : d.R e W base (fun k => ok k ∧ k ≠ g) v xs := by
  obtain ⟨A0, c0, hb, hg, hr0⟩ := h
  exact Kd.R_types ho hb ht
theorem IsS78.own_ne {w0 W : World} {g : Nat} {f0 : List Int} {f1 : Int} {α : Type} {d : Kd α} {e : Nat} {base : Nat} {ok : Nat → Prop} {v : Value} {xs : List α} (h : IsS78 w0 W g f0 f1) (ho : d.R e W base ok v xs) (ht : e ≠ 78) : some g ≠ v.ownBlock := by
  obtain ⟨A0, c0, hb, hg, hr0⟩ := h
  exact Kd.R_ne ho hb ht
theorem IsS78.lt {w0 W : World} {g : Nat} {f0 : List Int} {f1 : Int} (h : IsS78 w0 W g f0 f1) : g < W.heap.size := by
  obtain ⟨A0, c0, hb, hg, hr0⟩ := h
  exact blk_lt hb
theorem IsS78.ge {w0 W : World} {g : Nat} {f0 : List Int} {f1 : Int} (h : IsS78 w0 W g f0 f1) : w0.heap.size ≤ g := by
  obtain ⟨A0, c0, hb, hg, hr0⟩ := h
  exact hg
theorem IsS78.far {w0 W : World} {g : Nat} {f0 : List Int} {f1 : Int} {p : Addr} (h : IsS78 w0 W g f0 f1) (hne : g ≠ p.block) (u : Value) : IsS78 w0 (W.setCell p u) g f0 f1 := by
  obtain ⟨A0, c0, hb, hg, hr0⟩ := h
  exact ⟨A0, c0, blk_far hb hne u, hg, hr0⟩
theorem cellS78_0 {W : World} {g : Nat} {A0 : Option Addr} {c0 : Nat} {f0 : List Int} {f1 : Int} (h : W.heap[g]? = some (.cells #[.slice A0 f0.length c0, .int .i64 f1] 78 (0, 0))) : W.cell? ⟨g, 0, none⟩ = some (.slice A0 f0.length c0) := (blk_cell h 0).trans rfl
theorem cellS78_1 {W : World} {g : Nat} {A0 : Option Addr} {c0 : Nat} {f0 : List Int} {f1 : Int} (h : W.heap[g]? = some (.cells #[.slice A0 f0.length c0, .int .i64 f1] 78 (0, 0))) : W.cell? ⟨g, 1, none⟩ = some (.int .i64 f1) := (blk_cell h 1).trans rfl
theorem IsS78.set_1 {w0 W : World} {g : Nat} {f0 : List Int} {f1 : Int} (h : IsS78 w0 W g f0 f1) (x : Int) : IsS78 w0 (W.setCell ⟨g, 1, none⟩ (.int .i64 x)) g f0 x := by
  obtain ⟨A0, c0, hb, hg, hr0⟩ := h
  exact ⟨A0, c0, by simpa using blk_set hb 1 (.int .i64 x), hg, hr0⟩
theorem IsS78.new (w0 W : World) (A0 : Option Addr) (c0 : Nat) (f0 : List Int) (f1 : Int) (hB : Below w0.heap.size w0 W) (hr0 : Kd.C (Kd.int .u8) w0 A0 f0.length f0) : IsS78 w0 (W.alloc (.cells #[.slice A0 f0.length c0, .int .i64 f1] 78)) W.heap.size f0 f1 := ⟨A0, c0, by simpa using heap_alloc_new W _, hB.size, hr0⟩

def spec_l15Open.f (l0 : List Int) : Option (List Int × Int) := if (l0.length : Int) > 2000 then (if 2000 ≤ (l0.length : Int) then (some (l0.take 2000, 0)) else (none)) else (some (l0, 0))
set_option maxHeartbeats 8000000 in
set_option maxRecDepth 100000 in
theorem spec_l15Open.calls (A0 : Option Addr) (c0 : Nat) (l0 : List Int) (r1 : List Int) (r2 : Int) (w0 w : World) (hB : Below w0.heap.size w0 w) (hr0 : Kd.C (Kd.int .u8) w0 A0 l0.length l0) (hc0 : l0.length ≤ c0) (h : spec_l15Open.f l0 = some (r1, r2)) :
    Calls Tryd.prog 28 #[.slice A0 l0.length c0] w fun e w' => ∃ g_ : Nat, e = .returned (.pointer (some ⟨g_, 0, none⟩)) ∧ IsS78 w0 w' g_ r1 r2 ∧ Below w0.heap.size w0 w' ∧ Below w.heap.size w w' := by
  have hu78 := Tryd.underlying78
  have HR0 := Aside0.mk hr0
  have HC0 := Aside0.mk hc0
  clear hr0 hc0
  have HBW := Aside0.mk (Below.refl w.heap.size w)
  have HW0 := Aside0.mk hB.size
  have HB := Aside0.mk hB
  clear hB
  have H : (if (l0.length : Int) > 2000 then (if 2000 ≤ (l0.length : Int) then (some (l0.take 2000, 0)) else (none)) else (some (l0, 0))) = some (r1, r2) := h
  clear h
  by_cases c2 : (l0.length : Int) > 2000
  · rw [if_pos c2] at H
    have c2b0 : decide (2000 < (l0.length : Int)) = true := decide_eq_true c2
    have c2b1 : decide (2000 < l0.length) = true := decide_eq_true (by omega)
    clear c2
    by_cases c3 : 2000 ≤ (l0.length : Int)
    · rw [if_pos c3] at H
      have c3b0 := eq_true c3
      have c3b1 : decide (2000 ≤ (l0.length : Int)) = true := decide_eq_true c3
      clear c3
      simp only [Option.some.injEq, Prod.mk.injEq] at H
      obtain ⟨rfl, rfl⟩ := H
      obtain ⟨i04, hi04, _, hsz4, _⟩ := info_parts info5
      obtain ⟨hcut4, hA4, hC4⟩ := print_take_of (P := Tryd.prog) (Value.int .u8) 0 22 5 .i64 Tryd.underlying22 hi04 hsz4 A0 c0 l0 2000 (by omega) (of_decide_eq_true (by first | (with_reducible assumption) | assumption)) HC0.out
      have HR209 := Aside0.mk (Kd.C_of_reads (h1 := fun _ => rfl) (hA4 _ (Kd.reads_of_C HR0.out)))
      have HC209 := Aside0.mk hC4
      clear hA4 hC4 hi04 hsz4
      go_enter Tryd.func28, Tryd.ntmps28
      go_wp2_with (first | ((with_reducible refine gate_dst (N := 10) rfl ?_); refine box_event ?hg (N := 10) ?hd (cs := #[.slice A0 (l0.take 2000).length c0, .int .i64 0]) (t := 78) ?hr ?_; (case hd => rfl); (case hg => rfl); (case hr => first | (go_simp; done) | (go_simp; rfl)); intro gb210 hg w5 hbox hb; have n0_ := Aside0.mk (below_step HBW.out hb); have n1_ := Aside0.mk (below_step (by repeat (first | (with_reducible first | exact HB.out | apply below_alloc | apply pw_below_drewN | apply below_drew1) | exact HB.out)) hb); have n2_ := Aside0.mk (hbox); have n3_ := Aside0.mk ((by rw [hg]; exact (below_size (by repeat (first | (with_reducible first | exact HBW.out | apply below_alloc | apply pw_below_drewN | apply below_drew1) | exact HBW.out))) : w.heap.size ≤ gb210)); have n4_ := Aside0.mk ((Nat.le_trans HW0.out (by rw [hg]; exact (below_size (by repeat (first | (with_reducible first | exact HBW.out | apply below_alloc | apply pw_below_drewN | apply below_drew1) | exact HBW.out))) : w.heap.size ≤ gb210) : w0.heap.size ≤ gb210)); clear HBW; clear HB; have HBW := n0_; have HB := n1_; have BK210 := n2_; have GW210 := n3_; have GE210 := n4_; clear n0_ n1_ n2_ n3_ n4_; clear hb hbox hg))
      go_ret
      exact ⟨_, rfl, (show IsS78 w0 _ gb210 (l0.take 2000) 0 from ⟨_, _, by (with_reducible repeat (first | refine blk_drewN ?_ _ | refine blk_drew ?_ | refine blk_alloc ?_ _)); exact BK210.out, GE210.out, HR209.out⟩), by repeat (first | (with_reducible first | exact HB.out | apply below_alloc | apply pw_below_drewN | apply below_drew1 | refine below_set ?_ GE210.out) | exact HB.out), by repeat (first | (with_reducible first | exact HBW.out | apply below_alloc | apply pw_below_drewN | apply below_drew1 | refine below_set ?_ GW210.out) | exact HBW.out)⟩
    · rw [if_neg c3] at H
      exact absurd H (by simp)
  · rw [if_neg c2] at H
    have c2b0 : decide (2000 < (l0.length : Int)) = false := decide_eq_false c2
    have c2b1 : decide (2000 < l0.length) = false := decide_eq_false (by omega)
    clear c2
    simp only [Option.some.injEq, Prod.mk.injEq] at H
    obtain ⟨rfl, rfl⟩ := H
    go_enter Tryd.func28, Tryd.ntmps28
    go_wp2_with (first | ((with_reducible refine gate_dst (N := 10) rfl ?_); refine box_event ?hg (N := 10) ?hd (cs := #[.slice A0 l0.length c0, .int .i64 0]) (t := 78) ?hr ?_; (case hd => rfl); (case hg => rfl); (case hr => first | (go_simp; done) | (go_simp; rfl)); intro gb211 hg w6 hbox hb; have n0_ := Aside0.mk (below_step HBW.out hb); have n1_ := Aside0.mk (below_step (by repeat (first | (with_reducible first | exact HB.out | apply below_alloc | apply pw_below_drewN | apply below_drew1) | exact HB.out)) hb); have n2_ := Aside0.mk (hbox); have n3_ := Aside0.mk ((by rw [hg]; exact (below_size (by repeat (first | (with_reducible first | exact HBW.out | apply below_alloc | apply pw_below_drewN | apply below_drew1) | exact HBW.out))) : w.heap.size ≤ gb211)); have n4_ := Aside0.mk ((Nat.le_trans HW0.out (by rw [hg]; exact (below_size (by repeat (first | (with_reducible first | exact HBW.out | apply below_alloc | apply pw_below_drewN | apply below_drew1) | exact HBW.out))) : w.heap.size ≤ gb211) : w0.heap.size ≤ gb211)); clear HBW; clear HB; have HBW := n0_; have HB := n1_; have BK211 := n2_; have GW211 := n3_; have GE211 := n4_; clear n0_ n1_ n2_ n3_ n4_; clear hb hbox hg))
    go_ret
    exact ⟨_, rfl, (show IsS78 w0 _ gb211 l0 0 from ⟨_, _, by (with_reducible repeat (first | refine blk_drewN ?_ _ | refine blk_drew ?_ | refine blk_alloc ?_ _)); exact BK211.out, GE211.out, HR0.out⟩), by repeat (first | (with_reducible first | exact HB.out | apply below_alloc | apply pw_below_drewN | apply below_drew1 | refine below_set ?_ GE211.out) | exact HB.out), by repeat (first | (with_reducible first | exact HBW.out | apply below_alloc | apply pw_below_drewN | apply below_drew1 | refine below_set ?_ GW211.out) | exact HBW.out)⟩

def spec_l15Rd_pick.j0 : Nat → Int → Bool → List Int → Int → Option (Int × Int)
  | 0, _, _, _, _ => none
  | k + 1, x1, x24, x1000, x1001 => if x24 = true then (some (0, x1001)) else (if (wrap64 (x1001 - 1)) < (x1000.length : Int) then (if 0 ≤ (wrap64 (x1001 - 1)) then (if x1 = 0 then (none) else (some (Int.tmod (wrap64 (rd x1000 (wrap64 (x1001 - 1)))) x1, x1001))) else (none)) else (if (x1000.length : Int) = 0 then (none) else (if 0 ≤ (Int.tmod (wrap64 (x1001 - 1)) (x1000.length : Int)) then (if (Int.tmod (wrap64 (x1001 - 1)) (x1000.length : Int)) < (x1000.length : Int) then (if 0 ≤ (Int.tmod (wrap64 ((wrap64 ((wrap64 (x1001 - 1)) * 7)) + 3)) (x1000.length : Int)) then (if (Int.tmod (wrap64 ((wrap64 ((wrap64 (x1001 - 1)) * 7)) + 3)) (x1000.length : Int)) < (x1000.length : Int) then (if x1 = 0 then (none) else (some (Int.tmod (Go.bits .xor .i64 (wrap64 ((wrap64 ((wrap64 ((wrap64 ((wrap64 (rd x1000 (Int.tmod (wrap64 (x1001 - 1)) (x1000.length : Int)))) * 131)) + (wrap64 ((wrap64 (rd x1000 (Int.tmod (wrap64 ((wrap64 ((wrap64 (x1001 - 1)) * 7)) + 3)) (x1000.length : Int)))) * 1117)))) + (wrap64 ((wrap64 (x1001 - 1)) * 29)))) + (wrap64 ((wrap64 (Int.tdiv (wrap64 (x1001 - 1)) (x1000.length : Int))) * 53)))) (wrap64 (Int.tdiv (wrap64 ((wrap64 ((wrap64 ((wrap64 ((wrap64 (rd x1000 (Int.tmod (wrap64 (x1001 - 1)) (x1000.length : Int)))) * 131)) + (wrap64 ((wrap64 (rd x1000 (Int.tmod (wrap64 ((wrap64 ((wrap64 (x1001 - 1)) * 7)) + 3)) (x1000.length : Int)))) * 1117)))) + (wrap64 ((wrap64 (x1001 - 1)) * 29)))) + (wrap64 ((wrap64 (Int.tdiv (wrap64 (x1001 - 1)) (x1000.length : Int))) * 53)))) 64))) x1, x1001))) else (none)) else (none)) else (none)) else (none))))
def spec_l15Rd_pick.f (k : Nat) (s0_0 : List Int) (s0_1 : Int) (a1 : Int) : Option (Int × Int) := if a1 < 1 then (spec_l15Rd_pick.j0 k a1 true s0_0 (wrap64 (s0_1 + 1))) else (spec_l15Rd_pick.j0 k a1 ((s0_0.length : Int) == 0) s0_0 (wrap64 (s0_1 + 1)))
theorem spec_l15Rd_pick.mono_l : ∀ k, (∀ y0 y1 y2 y3, LeO (spec_l15Rd_pick.j0 k y0 y1 y2 y3) (spec_l15Rd_pick.j0 (k + 1) y0 y1 y2 y3))
  | 0 => fun _ _ _ _ r h => by simp [spec_l15Rd_pick.j0] at h
  | k + 1 => by
    have ih0 := spec_l15Rd_pick.mono_l k
    · intro y0 y1 y2 y3
      unfold spec_l15Rd_pick.j0
      repeat' first
      | (with_reducible exact ih0 _ _ _ _)
      | (with_reducible exact LeO.refl _)
      | (with_reducible exact LeO.none _)
      | (with_reducible refine LeO.ite ?_ ?_)
      | (with_reducible refine LeO.bind ?_ (fun _ => ?_))
      | exact ih0 _ _ _ _
      | exact LeO.none _
      | refine LeO.ite ?_ ?_
      | refine LeO.bind ?_ (fun _ => ?_)
theorem spec_l15Rd_pick.mono : ∀ a0 a1 a2 k, LeO (spec_l15Rd_pick.f k a0 a1 a2) (spec_l15Rd_pick.f (k + 1) a0 a1 a2) := by
  intro a0 a1 a2 k
  have ih0 := spec_l15Rd_pick.mono_l k
  unfold spec_l15Rd_pick.f
  repeat' first
      | (with_reducible exact ih0 _ _ _ _)
      | (with_reducible exact LeO.refl _)
      | (with_reducible exact LeO.none _)
      | (with_reducible refine LeO.ite ?_ ?_)
      | (with_reducible refine LeO.bind ?_ (fun _ => ?_))
      | exact ih0 _ _ _ _
      | exact LeO.none _
      | refine LeO.ite ?_ ?_
      | refine LeO.bind ?_ (fun _ => ?_)
set_option maxHeartbeats 8000000 in
set_option maxRecDepth 100000 in
theorem spec_l15Rd_pick.calls (k : Nat) (g : Nat) (s0_0 : List Int) (s0_1 : Int) (a1 : Int) (r1 : Int) (r2 : Int) (w0 w : World) (hI : IsS78 w0 w g s0_0 s0_1) (hB : Below w0.heap.size w0 w) (h : spec_l15Rd_pick.f k s0_0 s0_1 a1 = some (r1, r2)) :
    Calls Tryd.prog 31 #[.pointer (some ⟨g, 0, none⟩), .int .i64 a1] w fun e w' => e = .returned (.int .i64 r1) ∧ IsS78 w0 w' g s0_0 r2 ∧ Below w0.heap.size w0 w' ∧ KeepBut w w' g none := by
  have HI0 := Aside0.mk hI
  have HK := Aside0.mk (KeepBut.refl w g none)
  have HL := Aside0.mk hB.size
  clear hI
  have HW0 := Aside0.mk hB.size
  have HB := Aside0.mk hB
  clear hB
  have H : (if a1 < 1 then (spec_l15Rd_pick.j0 k a1 true s0_0 (wrap64 (s0_1 + 1))) else (spec_l15Rd_pick.j0 k a1 ((s0_0.length : Int) == 0) s0_0 (wrap64 (s0_1 + 1)))) = some (r1, r2) := h
  clear h
  have HC3 := Aside0.mk H
  clear H
  obtain ⟨ASz4_0, cSz4_0, HGz4, hgz4, HSz4_0⟩ := HI0.out
  have hcz4_0 := cellS78_0 HGz4
  have hcz4_1 := cellS78_1 HGz4
  have hfz4_1 := blk_frozen HGz4 1
  clear HGz4 hgz4
  go_enter Tryd.func31, Tryd.ntmps31
  go_upto_region 2 with (fail)
  repeat (go_quiet (fail); go_upto_region 2 with (fail))
  go_cut [24] (fun v24 wc => ∃ (kq : Nat) (x24_2 : Bool), v24 = .bool x24_2 ∧ Aside0 (spec_l15Rd_pick.j0 kq a1 x24_2 s0_0 (wrap64 (s0_1 + 1)) = some (r1, r2)) ∧ Aside0 (kq ≤ k) ∧ Aside0 (IsS78 w0 wc g s0_0 (wrap64 (s0_1 + 1))) ∧ Aside0 (KeepBut w wc g none) ∧ Aside0 (Below w0.heap.size w0 wc))
  case first =>
    have H := HC3.out
    clear HC3
    by_cases c5 : a1 < 1
    · rw [if_pos c5] at H
      have c5b0 : decide (a1 < 1) = true := decide_eq_true c5
      clear c5
      (first | rw [c5b0] | (simp only [i64_w, i32_w]; rw [c5b0]) | skip)
      have H' := Aside0.mk H
      clear H
      go_wp2
      repeat (go_quiet (fail); try go_wp2)
      go_meet
      case rel => exact ⟨_, (true), (by first | rfl | (simp; done) | (simp [*]; done)), H', ⟨by first | omega | exact Nat.le_refl _⟩, ⟨by repeat (first | (with_reducible first | exact HI0.out | apply IsS78.alloc | apply IsS78.drewN | apply IsS78.drew | apply IsS78.set_1) | exact HI0.out)⟩, ⟨by repeat (first | (with_reducible first | exact HK.out | apply KeepBut.set_ | apply keep_drewN | apply keep_drew | apply keep_alloc) | exact HK.out)⟩, ⟨by repeat (first | (with_reducible first | exact HB.out | apply below_alloc | apply pw_below_drewN | apply below_drew1 | refine below_set ?_ (IsS78.ge HI0.out)) | exact HB.out)⟩⟩
    · rw [if_neg c5] at H
      have c5b0 : decide (a1 < 1) = false := decide_eq_false c5
      clear c5
      (first | rw [c5b0] | (simp only [i64_w, i32_w]; rw [c5b0]) | skip)
      have H' := Aside0.mk H
      clear H
      obtain ⟨ASz6_0, cSz6_0, HGz6, hgz6, HSz6_0⟩ := HI0.out
      have hcz6_0 := cellS78_0 HGz6
      have hcz6_1 := cellS78_1 HGz6
      have hfz6_1 := blk_frozen HGz6 1
      clear HGz6 hgz6
      go_wp2
      repeat (go_quiet (fail); try go_wp2)
      go_meet
      case rel => exact ⟨_, (((s0_0.length : Int) == 0)), (by first | rfl | (simp; done) | (simp [*]; done)), H', ⟨by first | omega | exact Nat.le_refl _⟩, ⟨by repeat (first | (with_reducible first | exact HI0.out | apply IsS78.alloc | apply IsS78.drewN | apply IsS78.drew | apply IsS78.set_1) | exact HI0.out)⟩, ⟨by repeat (first | (with_reducible first | exact HK.out | apply KeepBut.set_ | apply keep_drewN | apply keep_drew | apply keep_alloc) | exact HK.out)⟩, ⟨by repeat (first | (with_reducible first | exact HB.out | apply below_alloc | apply pw_below_drewN | apply below_drew1 | refine below_set ?_ (IsS78.ge HI0.out)) | exact HB.out)⟩⟩
  case rest =>
    clear HC3
    try clear p2
    try clear c3
    try clear c5
    try clear c5b0
    try clear p6
    try clear hcz4_0
    try clear hcz4_1
    try clear hcz6_0
    try clear hcz6_1
    try clear hfz4_1
    try clear hfz6_1
    obtain ⟨kq, x24_2, rfl, HA, HJ2, HI0, HK, HB⟩ := hcut
    cases kq with
    | zero => exact absurd HA.out (by simp [spec_l15Rd_pick.j0])
    | succ kj2 =>
      have H := HA.out
      clear HA
      simp only [spec_l15Rd_pick.j0] at H
      by_cases c7 : x24_2 = true
      · subst c7
        have H1 : (some (0, (wrap64 (s0_1 + 1)))) = some (r1, r2) := by rw [if_pos rfl] at H; exact H
        clear H
        have H := H1
        clear H1
        simp only [Option.some.injEq, Prod.mk.injEq] at H
        obtain ⟨rfl, rfl⟩ := H
        go_wp2
        repeat (go_quiet (fail); try go_wp2)
        go_ret
        exact ⟨by first | rfl | (simp [errW_none, errW_some] <;> rfl) | (simp [*, errW_none, errW_some] <;> rfl), by repeat (first | (with_reducible first | exact HI0.out | apply IsS78.alloc | apply IsS78.drewN | apply IsS78.drew | apply IsS78.set_1) | exact HI0.out), by repeat (first | (with_reducible first | exact HB.out | apply below_alloc | apply pw_below_drewN | apply below_drew1 | refine below_set ?_ (IsS78.ge HI0.out)) | exact HB.out), by repeat (first | (with_reducible first | exact HK.out | apply KeepBut.set_ | apply keep_drewN | apply keep_drew | apply keep_alloc) | exact HK.out)⟩
      · replace c7 := Bool.eq_false_iff.mpr c7
        subst c7
        have H1 : (if (wrap64 ((wrap64 (s0_1 + 1)) - 1)) < (s0_0.length : Int) then (if 0 ≤ (wrap64 ((wrap64 (s0_1 + 1)) - 1)) then (if a1 = 0 then (none) else (some (Int.tmod (wrap64 (rd s0_0 (wrap64 ((wrap64 (s0_1 + 1)) - 1)))) a1, (wrap64 (s0_1 + 1))))) else (none)) else (if (s0_0.length : Int) = 0 then (none) else (if 0 ≤ (Int.tmod (wrap64 ((wrap64 (s0_1 + 1)) - 1)) (s0_0.length : Int)) then (if (Int.tmod (wrap64 ((wrap64 (s0_1 + 1)) - 1)) (s0_0.length : Int)) < (s0_0.length : Int) then (if 0 ≤ (Int.tmod (wrap64 ((wrap64 ((wrap64 ((wrap64 (s0_1 + 1)) - 1)) * 7)) + 3)) (s0_0.length : Int)) then (if (Int.tmod (wrap64 ((wrap64 ((wrap64 ((wrap64 (s0_1 + 1)) - 1)) * 7)) + 3)) (s0_0.length : Int)) < (s0_0.length : Int) then (if a1 = 0 then (none) else (some (Int.tmod (Go.bits .xor .i64 (wrap64 ((wrap64 ((wrap64 ((wrap64 ((wrap64 (rd s0_0 (Int.tmod (wrap64 ((wrap64 (s0_1 + 1)) - 1)) (s0_0.length : Int)))) * 131)) + (wrap64 ((wrap64 (rd s0_0 (Int.tmod (wrap64 ((wrap64 ((wrap64 ((wrap64 (s0_1 + 1)) - 1)) * 7)) + 3)) (s0_0.length : Int)))) * 1117)))) + (wrap64 ((wrap64 ((wrap64 (s0_1 + 1)) - 1)) * 29)))) + (wrap64 ((wrap64 (Int.tdiv (wrap64 ((wrap64 (s0_1 + 1)) - 1)) (s0_0.length : Int))) * 53)))) (wrap64 (Int.tdiv (wrap64 ((wrap64 ((wrap64 ((wrap64 ((wrap64 (rd s0_0 (Int.tmod (wrap64 ((wrap64 (s0_1 + 1)) - 1)) (s0_0.length : Int)))) * 131)) + (wrap64 ((wrap64 (rd s0_0 (Int.tmod (wrap64 ((wrap64 ((wrap64 ((wrap64 (s0_1 + 1)) - 1)) * 7)) + 3)) (s0_0.length : Int)))) * 1117)))) + (wrap64 ((wrap64 ((wrap64 (s0_1 + 1)) - 1)) * 29)))) + (wrap64 ((wrap64 (Int.tdiv (wrap64 ((wrap64 (s0_1 + 1)) - 1)) (s0_0.length : Int))) * 53)))) 64))) a1, (wrap64 (s0_1 + 1))))) else (none)) else (none)) else (none)) else (none)))) = some (r1, r2) := by rw [if_neg (show ¬ (false = true) by decide)] at H; exact H
        clear H
        have H := H1
        clear H1
        by_cases c8 : (wrap64 ((wrap64 (s0_1 + 1)) - 1)) < (s0_0.length : Int)
        · rw [if_pos c8] at H
          have c8b0 : decide ((wrap64 ((wrap64 (s0_1 + 1)) - 1)) < (s0_0.length : Int)) = true := decide_eq_true c8
          clear c8
          obtain ⟨ji9, hji9⟩ : ∃ j_ : Int, (wrap64 ((wrap64 (s0_1 + 1)) - 1)) = j_ := ⟨_, rfl⟩
          replace H : (if 0 ≤ (ji9) then (if a1 = 0 then (none) else (some (Int.tmod (wrap64 (rd s0_0 (ji9))) a1, (wrap64 (s0_1 + 1))))) else (none)) = some (r1, r2) := by first | (rw [hji9] at H; exact H) | (simp only [hji9] at H ⊢; exact H)
          (try rw [hji9] at c8b0)
          have hji9w : (IntKind.i64.wrap ((wrap64 (s0_1 + 1)) - 1)) = ji9 := (i64_w _).trans hji9
          by_cases c10 : 0 ≤ (ji9)
          · rw [if_pos c10] at H
            have c10b0 : decide (0 ≤ (ji9)) = true := decide_eq_true c10
            clear c10
            by_cases c11 : a1 = 0
            · rw [if_pos c11] at H
              exact absurd H (by simp)
            · rw [if_neg c11] at H
              have c11b0 : (a1 == 0) = false := beq_eq_false_iff_ne.mpr c11
              have c11b1 : (a1 != 0) = true := bne_iff_ne.mpr c11
              simp only [Option.some.injEq, Prod.mk.injEq] at H
              obtain ⟨rfl, rfl⟩ := H
              obtain ⟨ASz12_0, cSz12_0, HGz12, hgz12, HSz12_0⟩ := HI0.out
              have hcz12_0 := cellS78_0 HGz12
              have hcz12_1 := cellS78_1 HGz12
              have hfz12_1 := blk_frozen HGz12 1
              clear HGz12 hgz12
              have p212 : 0 ≤ ((ji9) : Int) := of_decide_eq_true (by first | (with_reducible assumption) | assumption)
              have q212 : (ji9) < (s0_0.length : Int) := of_decide_eq_true (by first | (with_reducible assumption) | assumption)
              obtain ⟨ad212, e212, hx212_0⟩ := Kd.at_int HSz12_0 (ji9) p212 q212
              cases e212
              replace hx212_0 := pw_cell_below HB.out hx212_0
              replace p212 := eq_true p212
              replace q212 := eq_true q212
              go_wp2
              repeat (go_quiet (fail); try go_wp2)
              go_ret
              exact ⟨by first | rfl | (simp [errW_none, errW_some] <;> rfl) | (simp only [← hji9]; first | rfl | (simp [errW_none, errW_some] <;> rfl)) | (simp [*, errW_none, errW_some] <;> rfl), by repeat (first | (with_reducible first | exact HI0.out | apply IsS78.alloc | apply IsS78.drewN | apply IsS78.drew | apply IsS78.set_1) | exact HI0.out), by repeat (first | (with_reducible first | exact HB.out | apply below_alloc | apply pw_below_drewN | apply below_drew1 | refine below_set ?_ (IsS78.ge HI0.out)) | exact HB.out), by repeat (first | (with_reducible first | exact HK.out | apply KeepBut.set_ | apply keep_drewN | apply keep_drew | apply keep_alloc) | exact HK.out)⟩
          · rw [if_neg c10] at H
            exact absurd H (by simp)
        · rw [if_neg c8] at H
          have c8b0 : decide ((wrap64 ((wrap64 (s0_1 + 1)) - 1)) < (s0_0.length : Int)) = false := decide_eq_false c8
          clear c8
          by_cases c13 : (s0_0.length : Int) = 0
          · rw [if_pos c13] at H
            exact absurd H (by simp)
          · rw [if_neg c13] at H
            have c13b0 : ((s0_0.length : Int) == 0) = false := beq_eq_false_iff_ne.mpr c13
            have c13b1 : ((s0_0.length : Int) != 0) = true := bne_iff_ne.mpr c13
            have c13b2 : ¬ (s0_0 = []) := fun h_ => c13 (by rw [h_]; rfl)
            obtain ⟨ji14, hji14⟩ : ∃ j_ : Int, (Int.tmod (wrap64 ((wrap64 (s0_1 + 1)) - 1)) (s0_0.length : Int)) = j_ := ⟨_, rfl⟩
            replace H : (if 0 ≤ (ji14) then (if (ji14) < (s0_0.length : Int) then (if 0 ≤ (Int.tmod (wrap64 ((wrap64 ((wrap64 ((wrap64 (s0_1 + 1)) - 1)) * 7)) + 3)) (s0_0.length : Int)) then (if (Int.tmod (wrap64 ((wrap64 ((wrap64 ((wrap64 (s0_1 + 1)) - 1)) * 7)) + 3)) (s0_0.length : Int)) < (s0_0.length : Int) then (if a1 = 0 then (none) else (some (Int.tmod (Go.bits .xor .i64 (wrap64 ((wrap64 ((wrap64 ((wrap64 ((wrap64 (rd s0_0 (ji14))) * 131)) + (wrap64 ((wrap64 (rd s0_0 (Int.tmod (wrap64 ((wrap64 ((wrap64 ((wrap64 (s0_1 + 1)) - 1)) * 7)) + 3)) (s0_0.length : Int)))) * 1117)))) + (wrap64 ((wrap64 ((wrap64 (s0_1 + 1)) - 1)) * 29)))) + (wrap64 ((wrap64 (Int.tdiv (wrap64 ((wrap64 (s0_1 + 1)) - 1)) (s0_0.length : Int))) * 53)))) (wrap64 (Int.tdiv (wrap64 ((wrap64 ((wrap64 ((wrap64 ((wrap64 (rd s0_0 (ji14))) * 131)) + (wrap64 ((wrap64 (rd s0_0 (Int.tmod (wrap64 ((wrap64 ((wrap64 ((wrap64 (s0_1 + 1)) - 1)) * 7)) + 3)) (s0_0.length : Int)))) * 1117)))) + (wrap64 ((wrap64 ((wrap64 (s0_1 + 1)) - 1)) * 29)))) + (wrap64 ((wrap64 (Int.tdiv (wrap64 ((wrap64 (s0_1 + 1)) - 1)) (s0_0.length : Int))) * 53)))) 64))) a1, (wrap64 (s0_1 + 1))))) else (none)) else (none)) else (none)) else (none)) = some (r1, r2) := by first | (rw [hji14] at H; exact H) | (simp only [hji14] at H ⊢; exact H)
            by_cases c15 : 0 ≤ (ji14)
            · rw [if_pos c15] at H
              have c15b0 : decide (0 ≤ (ji14)) = true := decide_eq_true c15
              clear c15
              by_cases c16 : (ji14) < (s0_0.length : Int)
              · rw [if_pos c16] at H
                have c16b0 : decide ((ji14) < (s0_0.length : Int)) = true := decide_eq_true c16
                clear c16
                obtain ⟨ji17, hji17⟩ : ∃ j_ : Int, (Int.tmod (wrap64 ((wrap64 ((wrap64 ((wrap64 (s0_1 + 1)) - 1)) * 7)) + 3)) (s0_0.length : Int)) = j_ := ⟨_, rfl⟩
                replace H : (if 0 ≤ (ji17) then (if (ji17) < (s0_0.length : Int) then (if a1 = 0 then (none) else (some (Int.tmod (Go.bits .xor .i64 (wrap64 ((wrap64 ((wrap64 ((wrap64 ((wrap64 (rd s0_0 (ji14))) * 131)) + (wrap64 ((wrap64 (rd s0_0 (ji17))) * 1117)))) + (wrap64 ((wrap64 ((wrap64 (s0_1 + 1)) - 1)) * 29)))) + (wrap64 ((wrap64 (Int.tdiv (wrap64 ((wrap64 (s0_1 + 1)) - 1)) (s0_0.length : Int))) * 53)))) (wrap64 (Int.tdiv (wrap64 ((wrap64 ((wrap64 ((wrap64 ((wrap64 (rd s0_0 (ji14))) * 131)) + (wrap64 ((wrap64 (rd s0_0 (ji17))) * 1117)))) + (wrap64 ((wrap64 ((wrap64 (s0_1 + 1)) - 1)) * 29)))) + (wrap64 ((wrap64 (Int.tdiv (wrap64 ((wrap64 (s0_1 + 1)) - 1)) (s0_0.length : Int))) * 53)))) 64))) a1, (wrap64 (s0_1 + 1))))) else (none)) else (none)) = some (r1, r2) := by first | (rw [hji17] at H; exact H) | (simp only [hji17] at H ⊢; exact H)
                by_cases c18 : 0 ≤ (ji17)
                · rw [if_pos c18] at H
                  have c18b0 : decide (0 ≤ (ji17)) = true := decide_eq_true c18
                  clear c18
                  by_cases c19 : (ji17) < (s0_0.length : Int)
                  · rw [if_pos c19] at H
                    have c19b0 : decide ((ji17) < (s0_0.length : Int)) = true := decide_eq_true c19
                    clear c19
                    by_cases c20 : a1 = 0
                    · rw [if_pos c20] at H
                      exact absurd H (by simp)
                    · rw [if_neg c20] at H
                      have c20b0 : (a1 == 0) = false := beq_eq_false_iff_ne.mpr c20
                      have c20b1 : (a1 != 0) = true := bne_iff_ne.mpr c20
                      simp only [Option.some.injEq, Prod.mk.injEq] at H
                      obtain ⟨rfl, rfl⟩ := H
                      obtain ⟨ASz21_0, cSz21_0, HGz21, hgz21, HSz21_0⟩ := HI0.out
                      have hcz21_0 := cellS78_0 HGz21
                      have hcz21_1 := cellS78_1 HGz21
                      have hfz21_1 := blk_frozen HGz21 1
                      clear HGz21 hgz21
                      have p213 : 0 ≤ ((ji14) : Int) := of_decide_eq_true (by first | (with_reducible assumption) | assumption)
                      have q213 : (ji14) < (s0_0.length : Int) := of_decide_eq_true (by first | (with_reducible assumption) | assumption)
                      obtain ⟨ad213, e213, hx213_0⟩ := Kd.at_int HSz21_0 (ji14) p213 q213
                      cases e213
                      replace hx213_0 := pw_cell_below HB.out hx213_0
                      replace p213 := eq_true p213
                      replace q213 := eq_true q213
                      have p214 : 0 ≤ ((ji17) : Int) := of_decide_eq_true (by first | (with_reducible assumption) | assumption)
                      have q214 : (ji17) < (s0_0.length : Int) := of_decide_eq_true (by first | (with_reducible assumption) | assumption)
                      obtain ⟨ad214, e214, hx214_0⟩ := Kd.at_int HSz21_0 (ji17) p214 q214
                      obtain rfl : ad213 = ad214 := (by injection e214)
                      replace hx214_0 := pw_cell_below HB.out hx214_0
                      replace p214 := eq_true p214
                      replace q214 := eq_true q214
                      go_wp2
                      repeat (go_quiet (fail); try go_wp2)
                      go_ret
                      exact ⟨by first | rfl | (simp [errW_none, errW_some] <;> rfl) | (simp only [← hji14, ← hji17]; first | rfl | (simp [errW_none, errW_some] <;> rfl)) | (simp [*, errW_none, errW_some] <;> rfl), by repeat (first | (with_reducible first | exact HI0.out | apply IsS78.alloc | apply IsS78.drewN | apply IsS78.drew | apply IsS78.set_1) | exact HI0.out), by repeat (first | (with_reducible first | exact HB.out | apply below_alloc | apply pw_below_drewN | apply below_drew1 | refine below_set ?_ (IsS78.ge HI0.out)) | exact HB.out), by repeat (first | (with_reducible first | exact HK.out | apply KeepBut.set_ | apply keep_drewN | apply keep_drew | apply keep_alloc) | exact HK.out)⟩
                  · rw [if_neg c19] at H
                    exact absurd H (by simp)
                · rw [if_neg c18] at H
                  exact absurd H (by simp)
              · rw [if_neg c16] at H
                exact absurd H (by simp)
            · rw [if_neg c15] at H
              exact absurd H (by simp)

def spec_l15Rd_num.f (k : Nat) (s0_0 : List Int) (s0_1 : Int) (l1 : List Int) : Option (Int × Int) := (spec_l15Rd_pick.f k s0_0 s0_1 (l1.length : Int)).bind fun bt215 => (if 0 ≤ bt215.1 then (if bt215.1 < (l1.length : Int) then (some (rd l1 bt215.1, bt215.2)) else (none)) else (none))
theorem spec_l15Rd_num.mono : ∀ a0 a1 a2 k, LeO (spec_l15Rd_num.f k a0 a1 a2) (spec_l15Rd_num.f (k + 1) a0 a1 a2) := by
  intro a0 a1 a2 k
  unfold spec_l15Rd_num.f
  repeat' first
      | (with_reducible exact spec_l15Rd_pick.mono _ _ _ _)
      | (with_reducible exact LeO.refl _)
      | (with_reducible exact LeO.none _)
      | (with_reducible refine LeO.ite ?_ ?_)
      | (with_reducible refine LeO.bind ?_ (fun _ => ?_))
      | exact spec_l15Rd_pick.mono _ _ _ _
      | exact LeO.none _
      | refine LeO.ite ?_ ?_
      | refine LeO.bind ?_ (fun _ => ?_)
set_option maxHeartbeats 8000000 in
set_option maxRecDepth 100000 in
theorem spec_l15Rd_num.calls (k : Nat) (g : Nat) (s0_0 : List Int) (s0_1 : Int) (A1 : Option Addr) (c1 : Nat) (l1 : List Int) (r1 : Int) (r2 : Int) (w0 w : World) (hI : IsS78 w0 w g s0_0 s0_1) (hB : Below w0.heap.size w0 w) (hr1 : Kd.C (Kd.int .i64) w A1 l1.length l1) (hc1 : l1.length ≤ c1) (hf1 : ∀ ad, A1 = some ad → 0 < l1.length → ad.block ≠ g) (h : spec_l15Rd_num.f k s0_0 s0_1 l1 = some (r1, r2)) :
    Calls Tryd.prog 62 #[.pointer (some ⟨g, 0, none⟩), .slice A1 l1.length c1] w fun e w' => e = .returned (.int .i64 r1) ∧ IsS78 w0 w' g s0_0 r2 ∧ Below w0.heap.size w0 w' ∧ KeepBut w w' g none := by
  have HR1 := Aside0.mk hr1
  have HC1 := Aside0.mk hc1
  clear hr1 hc1
  have HI0 := Aside0.mk hI
  have HK := Aside0.mk (KeepBut.refl w g none)
  have HL := Aside0.mk hB.size
  clear hI
  have HW0 := Aside0.mk hB.size
  have HB := Aside0.mk hB
  clear hB
  have H : ((spec_l15Rd_pick.f k s0_0 s0_1 (l1.length : Int)).bind fun bt215 => (if 0 ≤ bt215.1 then (if bt215.1 < (l1.length : Int) then (some (rd l1 bt215.1, bt215.2)) else (none)) else (none))) = some (r1, r2) := h
  clear h
  replace H := Option.bind_eq_some_iff.mp H
  obtain ⟨⟨t215, t216⟩, A30, H⟩ := H
  replace H : (if 0 ≤ t215 then (if t215 < (l1.length : Int) then (some (rd l1 t215, t216)) else (none)) else (none)) = some (r1, r2) := H
  have A3 := Aside0.mk A30
  clear A30
  by_cases c4 : 0 ≤ t215
  · rw [if_pos c4] at H
    have c4b0 : decide (0 ≤ t215) = true := decide_eq_true c4
    clear c4
    by_cases c5 : t215 < (l1.length : Int)
    · rw [if_pos c5] at H
      have c5b0 : decide (t215 < (l1.length : Int)) = true := decide_eq_true c5
      clear c5
      simp only [Option.some.injEq, Prod.mk.injEq] at H
      obtain ⟨rfl, rfl⟩ := H
      go_enter Tryd.func62, Tryd.ntmps62
      go_wp2_with (first | ((with_reducible refine gate_callee (f := 31) rfl ?_); refine goesL_ (some 9) rfl rfl Tryd.func31 (by kernel_rfl) rfl #[.pointer (some ⟨g, 0, none⟩), .int .i64 (l1.length : Int)] rfl (by (try simp only [List.map_toArray, List.map_cons, List.map_nil]); first | done | rfl | (simp only [List.length_drop, List.length_take]; rfl)) ?_; (with_reducible refine (spec_l15Rd_pick.calls k g s0_0 s0_1 (l1.length : Int) t215 t216 w0 _ ?side1 ?side2 A3.out).mono ?_); (case side1 => repeat (first | (with_reducible first | exact HI0.out | apply IsS78.alloc | apply IsS78.drewN | apply IsS78.drew | apply IsS78.set_1) | exact HI0.out)); (case side2 => repeat (first | (with_reducible first | exact HB.out | apply below_alloc | apply pw_below_drewN | apply below_drew1 | refine below_set ?_ (IsS78.ge HI0.out)) | exact HB.out)); rintro e w6 ⟨rfl, hi, hb, hk⟩; refine ⟨_, rfl, ?_⟩; have n0_ := Aside0.mk (KeepBut.trans (by repeat (first | (with_reducible first | exact HK.out | apply KeepBut.set_ | apply keep_drewN | apply keep_drew | apply keep_alloc) | exact HK.out)) hk (.inl rfl)); have n1_ := Aside0.mk (hb); have n2_ := Aside0.mk (hi); clear HK; clear HB; clear HI0; have HK := n0_; have HB := n1_; have HI0 := n2_; clear n0_ n1_ n2_; (try clear hb); (try clear hb2); (try clear hk); (try clear hi); have p217 : 0 ≤ (t215 : Int) := of_decide_eq_true (by first | (with_reducible assumption) | assumption); have q217 : t215 < (l1.length : Int) := of_decide_eq_true (by first | (with_reducible assumption) | assumption); obtain ⟨ad217, e217, hx217_0⟩ := Kd.at_int HR1.out t215 p217 q217; cases e217; replace hx217_0 := keep_cell HK.out hx217_0 (by first | (rw [add_block]; exact hf1 _ rfl (by omega)) | exact hf1 _ rfl (by omega) | exact hf1 ad217 rfl (by omega)); replace p217 := eq_true p217; replace q217 := eq_true q217))
      go_ret
      exact ⟨by first | rfl | (simp [errW_none, errW_some] <;> rfl) | (simp [*, errW_none, errW_some] <;> rfl), by repeat (first | (with_reducible first | exact HI0.out | apply IsS78.alloc | apply IsS78.drewN | apply IsS78.drew | apply IsS78.set_1) | exact HI0.out), by repeat (first | (with_reducible first | exact HB.out | apply below_alloc | apply pw_below_drewN | apply below_drew1 | refine below_set ?_ (IsS78.ge HI0.out)) | exact HB.out), by repeat (first | (with_reducible first | exact HK.out | apply KeepBut.set_ | apply keep_drewN | apply keep_drew | apply keep_alloc) | exact HK.out)⟩
    · rw [if_neg c5] at H
      exact absurd H (by simp)
  · rw [if_neg c4] at H
    exact absurd H (by simp)

def spec_l15Rd_of.f (k : Nat) (s0_0 : List Int) (s0_1 : Int) (l1 : List ByteArray) : Option (ByteArray × Int) := (spec_l15Rd_pick.f k s0_0 s0_1 (l1.length : Int)).bind fun bt219 => (if 0 ≤ bt219.1 then (if bt219.1 < (l1.length : Int) then (some (rdOf ByteArray.empty l1 bt219.1, bt219.2)) else (none)) else (none))
theorem spec_l15Rd_of.mono : ∀ a0 a1 a2 k, LeO (spec_l15Rd_of.f k a0 a1 a2) (spec_l15Rd_of.f (k + 1) a0 a1 a2) := by
  intro a0 a1 a2 k
  unfold spec_l15Rd_of.f
  repeat' first
      | (with_reducible exact spec_l15Rd_pick.mono _ _ _ _)
      | (with_reducible exact LeO.refl _)
      | (with_reducible exact LeO.none _)
      | (with_reducible refine LeO.ite ?_ ?_)
      | (with_reducible refine LeO.bind ?_ (fun _ => ?_))
      | exact spec_l15Rd_pick.mono _ _ _ _
      | exact LeO.none _
      | refine LeO.ite ?_ ?_
      | refine LeO.bind ?_ (fun _ => ?_)
set_option maxHeartbeats 8000000 in
set_option maxRecDepth 100000 in
theorem spec_l15Rd_of.calls (k : Nat) (g : Nat) (s0_0 : List Int) (s0_1 : Int) (A1 : Option Addr) (c1 : Nat) (l1 : List ByteArray) (r1 : ByteArray) (r2 : Int) (w0 w : World) (hI : IsS78 w0 w g s0_0 s0_1) (hB : Below w0.heap.size w0 w) (hr1 : Kd.C Kd.string w A1 l1.length l1) (hc1 : l1.length ≤ c1) (hf1 : ∀ ad, A1 = some ad → 0 < l1.length → ad.block ≠ g) (h : spec_l15Rd_of.f k s0_0 s0_1 l1 = some (r1, r2)) :
    Calls Tryd.prog 64 #[.pointer (some ⟨g, 0, none⟩), .slice A1 l1.length c1] w fun e w' => e = .returned (.string r1) ∧ IsS78 w0 w' g s0_0 r2 ∧ Below w0.heap.size w0 w' ∧ KeepBut w w' g none := by
  have HR1 := Aside0.mk hr1
  have HC1 := Aside0.mk hc1
  clear hr1 hc1
  have HI0 := Aside0.mk hI
  have HK := Aside0.mk (KeepBut.refl w g none)
  have HL := Aside0.mk hB.size
  clear hI
  have HW0 := Aside0.mk hB.size
  have HB := Aside0.mk hB
  clear hB
  have H : ((spec_l15Rd_pick.f k s0_0 s0_1 (l1.length : Int)).bind fun bt219 => (if 0 ≤ bt219.1 then (if bt219.1 < (l1.length : Int) then (some (rdOf ByteArray.empty l1 bt219.1, bt219.2)) else (none)) else (none))) = some (r1, r2) := h
  clear h
  replace H := Option.bind_eq_some_iff.mp H
  obtain ⟨⟨t219, t220⟩, A30, H⟩ := H
  replace H : (if 0 ≤ t219 then (if t219 < (l1.length : Int) then (some (rdOf ByteArray.empty l1 t219, t220)) else (none)) else (none)) = some (r1, r2) := H
  have A3 := Aside0.mk A30
  clear A30
  by_cases c4 : 0 ≤ t219
  · rw [if_pos c4] at H
    have c4b0 : decide (0 ≤ t219) = true := decide_eq_true c4
    clear c4
    by_cases c5 : t219 < (l1.length : Int)
    · rw [if_pos c5] at H
      have c5b0 : decide (t219 < (l1.length : Int)) = true := decide_eq_true c5
      clear c5
      simp only [Option.some.injEq, Prod.mk.injEq] at H
      obtain ⟨rfl, rfl⟩ := H
      go_enter Tryd.func64, Tryd.ntmps64
      go_wp2_with (first | ((with_reducible refine gate_callee (f := 31) rfl ?_); refine goesL_ (some 9) rfl rfl Tryd.func31 (by kernel_rfl) rfl #[.pointer (some ⟨g, 0, none⟩), .int .i64 (l1.length : Int)] rfl (by (try simp only [List.map_toArray, List.map_cons, List.map_nil]); first | done | rfl | (simp only [List.length_drop, List.length_take]; rfl)) ?_; (with_reducible refine (spec_l15Rd_pick.calls k g s0_0 s0_1 (l1.length : Int) t219 t220 w0 _ ?side1 ?side2 A3.out).mono ?_); (case side1 => repeat (first | (with_reducible first | exact HI0.out | apply IsS78.alloc | apply IsS78.drewN | apply IsS78.drew | apply IsS78.set_1) | exact HI0.out)); (case side2 => repeat (first | (with_reducible first | exact HB.out | apply below_alloc | apply pw_below_drewN | apply below_drew1 | refine below_set ?_ (IsS78.ge HI0.out)) | exact HB.out)); rintro e w6 ⟨rfl, hi, hb, hk⟩; refine ⟨_, rfl, ?_⟩; have n0_ := Aside0.mk (KeepBut.trans (by repeat (first | (with_reducible first | exact HK.out | apply KeepBut.set_ | apply keep_drewN | apply keep_drew | apply keep_alloc) | exact HK.out)) hk (.inl rfl)); have n1_ := Aside0.mk (hb); have n2_ := Aside0.mk (hi); clear HK; clear HB; clear HI0; have HK := n0_; have HB := n1_; have HI0 := n2_; clear n0_ n1_ n2_; (try clear hb); (try clear hb2); (try clear hk); (try clear hi); have p221 : 0 ≤ (t219 : Int) := of_decide_eq_true (by first | (with_reducible assumption) | assumption); have q221 : t219 < (l1.length : Int) := of_decide_eq_true (by first | (with_reducible assumption) | assumption); obtain ⟨ad221, e221, hx221_0⟩ := Kd.at_string HR1.out t219 p221 q221; cases e221; replace hx221_0 := keep_cell HK.out hx221_0 (by first | (rw [add_block]; exact hf1 _ rfl (by omega)) | exact hf1 _ rfl (by omega) | exact hf1 ad221 rfl (by omega)); replace p221 := eq_true p221; replace q221 := eq_true q221))
      go_ret
      exact ⟨by first | rfl | (simp [errW_none, errW_some] <;> rfl) | (simp [*, errW_none, errW_some] <;> rfl), by repeat (first | (with_reducible first | exact HI0.out | apply IsS78.alloc | apply IsS78.drewN | apply IsS78.drew | apply IsS78.set_1) | exact HI0.out), by repeat (first | (with_reducible first | exact HB.out | apply below_alloc | apply pw_below_drewN | apply below_drew1 | refine below_set ?_ (IsS78.ge HI0.out)) | exact HB.out), by repeat (first | (with_reducible first | exact HK.out | apply KeepBut.set_ | apply keep_drewN | apply keep_drew | apply keep_alloc) | exact HK.out)⟩
    · rw [if_neg c5] at H
      exact absurd H (by simp)
  · rw [if_neg c4] at H
    exact absurd H (by simp)

end Go.Proofs.YteeepenncddnjaaDoor.Q
end
section
namespace Go.Proofs.YteeepenncddnjaaDoor
open Go.RowKit Go.Proofs.YteeepenncddnjaaDoorW.PrintWords Go.Proofs.YteeepenncddnjaaDoorW.PrintLast Go.Proofs.YteeepenncddnjaaDoorW.PrintMore
set_option linter.unusedVariables false
set_option linter.unusedSimpArgs false
abbrev IsRd := @Q.IsS78
/-- From w to W: the source in block g stands at q; no other block of w has changed. -/
structure Dr (w0 w : World) (g : Nat) (s : List Int) (q : Int) (W : World) : Prop where
  is : IsRd w0 W g s q
  b : Below w0.heap.size w0 W
  kp : KeepBut w W g none
  lt : g < w.heap.size
section
variable {w0 w W W1 : World} {g : Nat} {s : List Int} {q q' : Int}
theorem Dr.new (hi : IsRd w0 w g s q) (hb : Below w0.heap.size w0 w) : Dr w0 w g s q w := ⟨hi, hb, KeepBut.refl _ _ _, Q.IsS78.lt hi⟩
theorem Dr.size (h : Dr w0 w g s q W) : w.heap.size ≤ W.heap.size := keep_size h.kp
theorem Dr.later (h : Dr w0 w g s q W) (hb : Below W.heap.size W W1) : Dr w0 w g s q W1 := ⟨Q.IsS78.below h.is hb, below_step h.b hb, h.kp.trans (KeepBut.of_below hb g none) (.inl rfl), h.lt⟩
theorem Dr.call (h : Dr w0 w g s q W) (h1 : IsRd w0 W1 g s q') (h2 : Below w0.heap.size w0 W1) (h3 : KeepBut W W1 g none) : Dr w0 w g s q' W1 := ⟨h1, h2, h.kp.trans h3 (.inl rfl), h.lt⟩
theorem Dr.put (h : Dr w0 w g s q W) {b j : Nat} (hb : w.heap.size ≤ b) (u : Value) : Dr w0 w g s q (W.setCell ⟨b, j, none⟩ u) := by
  have := h.lt
  have hge := Q.IsS78.ge h.is
  exact ⟨Q.IsS78.far h.is (by show g ≠ b; omega) u, below_set h.b (by show w0.heap.size ≤ b; omega), keep_far h.kp (by exact hb) u, h.lt⟩
theorem Dr.grown {row : Option Nat} (h : Dr w0 w g s q W) (hg : W.grownBy W1 row) (hr : ∀ k, row = some k → w.heap.size ≤ k) : Dr w0 w g s q W1 := by
  have hl := h.lt
  have hge := Q.IsS78.ge h.is
  have hs := h.size
  have hne : ∀ k, k < w.heap.size → some k ≠ row := fun k hk he => by
    have := hr k he.symm
    omega
  refine ⟨Q.IsS78.grown h.is hg (hne g hl), ⟨hg.os.trans h.b.os, hg.tape.trans h.b.tape, hg.output.trans h.b.output, Nat.le_trans h.b.size hg.size, fun k hk => (hg.block k (by have := h.b.size; omega) (hne k (by omega))).trans (h.b.block k hk)⟩, ⟨Nat.le_trans hs hg.size, fun i hi h1 h2 => (hg.block i (by omega) (hne i hi)).trans (h.kp.2 i hi h1 h2)⟩, hl⟩
end
structure Dp (w0 w : World) (g : Nat) (s : List Int) (q : Int) (O1 O2 : Obj) (g3 : Nat) (k : Int) (n : ByteArray) (m : Int) (sc : List Int) (ks : List Fm) (v3 v : Value) (inner : List Value) (fp : List Nat) (W : World) : Prop where
  dr : Dr w0 w g s q W
  k1 : W.heap[w.heap.size]? = some O1
  k2 : W.heap[w.heap.size + 1]? = some O2
  k3 : W.heap[g3]? = some (.cells #[.int .i64 k, .string n, .int .i64 m, v3, v] 26 (0, 0))
  h3 : w.heap.size + 2 ≤ g3
  o3 : W.ownsRow 0 3 1 v3 sc.length (encI sc)
  o4 : W.ownsRow 0 26 5 v ks.length inner
  tr : TrL W ks inner fp
  nd : (obs v3 ++ (obs v ++ fp)).Nodup
  ge : ∀ b, b ∈ obs v3 ++ (obs v ++ fp) → w.heap.size + 2 ≤ b ∧ b ≠ g3
section
variable {w0 w W W1 : World} {g : Nat} {s : List Int} {q q' : Int} {O1 O2 : Obj} {g3 : Nat} {k m : Int} {n : ByteArray} {sc : List Int} {ks : List Fm} {v3 v : Value} {inner : List Value} {fp : List Nat}
theorem Dp.lt (h : Dp w0 w g s q O1 O2 g3 k n m sc ks v3 v inner fp W) : ∀ b, b ∈ obs v3 ++ (obs v ++ fp) → b < W.heap.size := by
  intro b hb
  rcases List.mem_append.1 hb with hb | hb
  · exact own_lt h.o3 b (obs_mem.1 hb)
  rcases List.mem_append.1 hb with hb | hb
  · exact own_lt h.o4 b (obs_mem.1 hb)
  · exact h.tr.lt _ b hb
theorem Dp.lts (h : Dp w0 w g s q O1 O2 g3 k n m sc ks v3 v inner fp W) : w.heap.size + 2 ≤ W.heap.size ∧ g3 < W.heap.size := by
  have h1 := blk_lt h.k2
  have h2 := blk_lt h.k3
  omega
/-- A world in which the source stands elsewhere, and the blocks from w on stand as_ they stood. -/
theorem Dp.move (h : Dp w0 w g s q O1 O2 g3 k n m sc ks v3 v inner fp W) (hd : Dr w0 w g s q' W1) (hm : ∀ b, w.heap.size ≤ b → b < W.heap.size → W1.heap[b]? = W.heap[b]?) : Dp w0 w g s q' O1 O2 g3 k n m sc ks v3 v inner fp W1 := by
  have hl := h.lt
  have hge := h.ge
  have hs := h.lts
  have h3 := h.h3
  have hmv : ∀ b, b ∈ obs v3 ++ (obs v ++ fp) → W1.heap[b]? = W.heap[b]? := fun b hb => hm b (by have := (hge b hb).1; omega) (hl b hb)
  exact ⟨hd, (hm _ (by omega) (by omega)).trans h.k1, (hm _ (by omega) (by omega)).trans h.k2, (hm _ (by omega) (by omega)).trans h.k3, h.h3,
    own_move h.o3 (fun b hb => hmv b (by simp [obs_mem, hb])), own_move h.o4 (fun b hb => hmv b (by simp [obs_mem, hb])), h.tr.move _ (fun b hb => hmv b (by simp [hb])), h.nd, h.ge⟩
theorem Dp.later (h : Dp w0 w g s q O1 O2 g3 k n m sc ks v3 v inner fp W) (hb : Below W.heap.size W W1) : Dp w0 w g s q O1 O2 g3 k n m sc ks v3 v inner fp W1 := h.move (h.dr.later hb) (fun b _ hlt => hb.block b hlt)
theorem Dp.call (h : Dp w0 w g s q O1 O2 g3 k n m sc ks v3 v inner fp W) (h1 : IsRd w0 W1 g s q') (h2 : Below w0.heap.size w0 W1) (h3 : KeepBut W W1 g none) : Dp w0 w g s q' O1 O2 g3 k n m sc ks v3 v inner fp W1 :=
  h.move (h.dr.call h1 h2 h3) (fun b hb hlt => h3.2 b hlt (by have := h.dr.lt; omega) (by simp))
/-- The form's own cells are written: kind, name, number. -/
theorem Dp.put {j : Nat} {u : Value} {k' m' : Int} {n' : ByteArray} (h : Dp w0 w g s q O1 O2 g3 k n m sc ks v3 v inner fp W) (hj : (W.setCell ⟨g3, j, none⟩ u).heap[g3]? = some (.cells #[.int .i64 k', .string n', .int .i64 m', v3, v] 26 (0, 0))) : Dp w0 w g s q O1 O2 g3 k' n' m' sc ks v3 v inner fp (W.setCell ⟨g3, j, none⟩ u) := by
  have hge := h.ge
  have h3 := h.h3
  have hmv : ∀ b, b ≠ g3 → (W.setCell ⟨g3, j, none⟩ u).heap[b]? = W.heap[b]? := fun b hb => Below.heap_setCell _ _ _ _ (by exact hb)
  exact ⟨h.dr.put (by omega) u, (hmv _ (by omega)).trans h.k1, (hmv _ (by omega)).trans h.k2, hj, h3,
    own_move h.o3 (fun b hb => hmv b (hge b (by simp [obs_mem, hb])).2), own_move h.o4 (fun b hb => hmv b (hge b (by simp [obs_mem, hb])).2), h.tr.move _ (fun b hb => hmv b (hge b (by simp [hb])).2), h.nd, h.ge⟩
/-- The form gets other scopes: a row that is none of its parts'. -/
theorem Dp.scopes {u : Value} {sc' : List Int} {row : Option Nat} (h : Dp w0 w g s q O1 O2 g3 k n m sc ks v3 v inner fp W) (hg : W.grownBy W1 row) (hrow : ∀ b, row = some b → w.heap.size + 2 ≤ b ∧ b ≠ g3 ∧ b ∉ obs v ∧ b ∉ fp) (ho : W1.ownsRow 0 3 1 u sc'.length (encI sc')) (hu : ∀ b, u.ownBlock = some b → w.heap.size + 2 ≤ b ∧ b ≠ g3 ∧ b ∉ obs v ∧ b ∉ fp) :
    Dp w0 w g s q O1 O2 g3 k n m sc' ks u v inner fp (W1.setCell ⟨g3, 3, none⟩ u) := by
  have hl := h.lt
  have hls := h.lts
  have hge := h.ge
  have h3 := h.h3
  have hnd := h.nd
  simp only [List.nodup_append, List.mem_append] at hnd hge hl
  obtain ⟨n3, ⟨n4, n5, n45⟩, n345⟩ := hnd
  have hne : ∀ b, b < w.heap.size + 2 ∨ b = g3 ∨ b ∈ obs v ∨ b ∈ fp → some b ≠ row := by
    intro b hb he
    obtain ⟨r1, r2, r3, r4⟩ := hrow b he.symm
    rcases hb with hb | hb | hb | hb
    · omega
    · exact r2 hb
    · exact r3 hb
    · exact r4 hb
  have hmv : ∀ b, b < w.heap.size + 2 ∨ b ∈ obs v ∨ b ∈ fp → (W1.setCell ⟨g3, 3, none⟩ u).heap[b]? = W.heap[b]? := by
    intro b hb
    have hb2 : b < W.heap.size ∧ b ≠ g3 := by
      rcases hb with hb | hb | hb
      · exact ⟨by omega, by omega⟩
      · exact ⟨hl b (.inr (.inl hb)), (hge b (.inr (.inl hb))).2⟩
      · exact ⟨hl b (.inr (.inr hb)), (hge b (.inr (.inr hb))).2⟩
    rw [Below.heap_setCell _ _ _ _ (by exact hb2.2)]
    exact hg.block b hb2.1 (hne b (by rcases hb with hb | hb | hb <;> simp [hb]))
  refine ⟨(h.dr.grown hg (fun c hc => by have := (hrow c hc).1; omega)).put (by omega) u, (hmv _ (.inl (by omega))).trans h.k1, (hmv _ (.inl (by omega))).trans h.k2, ?_, h3, own_move ho (fun b hb => Below.heap_setCell _ _ _ _ (by exact (hu b hb).2.1)), own_move h.o4 (fun b hb => hmv b (.inr (.inl (obs_mem.2 hb)))), h.tr.move _ (fun b hb => hmv b (.inr (.inr hb))), ?_, ?_⟩
  · have := (hg.block g3 hls.2 (hne g3 (.inr (.inl rfl)))).trans h.k3
    simpa using blk_set this 3 u
  · simp only [List.nodup_append, List.mem_append]
    refine ⟨?_, ⟨n4, n5, n45⟩, fun a ha b hb e => ?_⟩
    · unfold obs
      cases u.ownBlock <;> simp
    · subst e
      have := hu a (obs_mem.1 ha)
      rcases hb with hb | hb
      · exact this.2.2.1 hb
      · exact this.2.2.2 hb
  · simp only [List.mem_append]
    intro b hb
    rcases hb with hb | hb | hb
    · have := hu b (obs_mem.1 hb); exact ⟨this.1, this.2.1⟩
    · exact hge b (.inr (.inl hb))
    · exact hge b (.inr (.inr hb))
/-- A new block is none of the form's. -/
theorem Dp.fresh (h : Dp w0 w g s q O1 O2 g3 k n m sc ks v3 v inner fp W) {b : Nat} (hb : W.heap.size ≤ b) : w.heap.size + 2 ≤ b ∧ b ≠ g3 ∧ b ∉ obs v ∧ b ∉ fp := by
  have hl := h.lt
  have hls := h.lts
  refine ⟨by omega, by omega, fun hm => ?_, fun hm => ?_⟩
  · have := hl b (by simp [hm]); omega
  · have := hl b (by simp [hm]); omega
/-- One part of the form gives way to a form in new memory. -/
theorem Dp.kid {B : Nat} {y : Fm} {u3 u4 : Value} {gr cap : Nat} {a b : List Fm} {x : Fm} {ia ib : List Value} {z3 z4 : Value} {fa fx fb : List Nat}
    {N : Nat} (hN : N = ks.length) (h : Dp w0 w g s q O1 O2 g3 k n m sc ks v3 (.slice (some ⟨gr, 0, none⟩) N cap) inner fp W) (hks : ks = a ++ x :: b) (hin : inner = ia ++ ([.int .i64 x.f0, .string x.f1, .int .i64 x.f2, z3, z4] ++ ib)) (hfp : fp = fa ++ (fx ++ fb)) (ha : TrL W a ia fa) (hb : TrL W b ib fb)
    (hB : ∀ c, c ∈ obs v3 ++ (obs (.slice (some ⟨gr, 0, none⟩) N cap) ++ fp) → c < B) (hB3 : g3 < B) (hB2 : w.heap.size + 2 ≤ B) (hn : NewF B W y u3 u4) :
    ∃ fp', Dp w0 w g s q O1 O2 g3 k n m sc (a ++ y :: b) v3 (.slice (some ⟨gr, 0, none⟩) N cap) (ia ++ ([.int .i64 y.f0, .string y.f1, .int .i64 y.f2, u3, u4] ++ ib)) fp' (set5 W gr (a.length * 5) (.int .i64 y.f0) (.string y.f1) (.int .i64 y.f2) u3 u4) := by
  obtain ⟨fk, ht, hknd, hkge⟩ := hn
  have hl := h.lt
  have hls := h.lts
  have hge := h.ge
  have h3 := h.h3
  have hnd := h.nd
  have htl := ht.lt y
  subst hN hks hin hfp
  have hlen := ha.len
  obtain ⟨_, _, hput⟩ := row_put h.o4 hlen
  have hgr : gr ∈ obs (Value.slice (some ⟨gr, 0, none⟩) (a ++ x :: b).length cap) := by simp [obs, Value.ownBlock]
  have hob : ∀ c, c ∈ obs (Value.slice (some ⟨gr, 0, none⟩) (a ++ x :: b).length cap) → c = gr := by intro c hc; simpa [obs, Value.ownBlock] using hc
  simp only [List.nodup_append, List.mem_append] at hnd hge hl hB
  obtain ⟨n3, ⟨n4, ⟨na, ⟨nx, nb, nxb⟩, naxb⟩, n45⟩, n345⟩ := hnd
  have hgr3 := (hge gr (.inr (.inl hgr))).2
  have hmv : ∀ c, c ≠ gr → (set5 W gr (a.length * 5) (.int .i64 y.f0) (.string y.f1) (.int .i64 y.f2) u3 u4).heap[c]? = W.heap[c]? := fun c hc => set5_far _ _ _ _ _ _ _ _ c hc
  have hgw := (hge gr (.inr (.inl hgr))).1
  refine ⟨fa ++ (fk ++ fb), ((((h.dr.put (by omega) _).put (by omega) _).put (by omega) _).put (by omega) _).put (by omega) _, (hmv _ (by omega)).trans h.k1, (hmv _ (by omega)).trans h.k2, (hmv _ (by omega)).trans h.k3, h3, own_move h.o3 (fun c hc => hmv c (fun e => n345 c (obs_mem.2 hc) gr (.inl hgr) e)), ?_, ?_, ?_, ?_⟩
  · have := hput (.int .i64 y.f0) (.string y.f1) (.int .i64 y.f2) u3 u4
    simpa using this
  · refine (ha.move _ (fun c hc => hmv c (fun e => n45 gr hgr c (.inl hc) e.symm))).append ?_
    refine .cons y b u3 u4 ib fk fb (ht.move y (fun c hc => hmv c (fun e => ?_))) (hb.move _ (fun c hc => hmv c (fun e => n45 gr hgr c (.inr (.inr hc)) e.symm)))
    have h1 := hkge c hc
    have h2 := hB gr (.inr (.inl hgr))
    omega
  · simp only [List.nodup_append, List.mem_append]
    refine ⟨n3, ⟨n4, ⟨na, ⟨hknd, nb, fun c hc d hd e => ?_⟩, fun c hc d hd e => ?_⟩, fun c hc d hd e => ?_⟩, fun c hc d hd e => ?_⟩
    · have := hkge c hc; have := hB d (.inr (.inr (.inr (.inr hd)))); omega
    · rcases hd with hd | hd
      · have := hkge d hd; have := hB c (.inr (.inr (.inl hc))); omega
      · exact naxb c hc d (.inr hd) e
    · rcases hd with hd | hd | hd
      · exact n45 c hc d (.inl hd) e
      · have := hkge d hd; have := hB c (.inr (.inl hc)); omega
      · exact n45 c hc d (.inr (.inr hd)) e
    · rcases hd with hd | hd | hd | hd
      · exact n345 c hc d (.inl hd) e
      · exact n345 c hc d (.inr (.inl hd)) e
      · have := hkge d hd; have := hB c (.inl hc); omega
      · exact n345 c hc d (.inr (.inr (.inr hd))) e
  · simp only [List.mem_append]
    intro c hc
    rcases hc with hc | hc | hc | hc | hc
    · exact hge c (.inl hc)
    · exact hge c (.inr (.inl hc))
    · exact hge c (.inr (.inr (.inl hc)))
    · have := hkge c hc; exact ⟨by omega, by omega⟩
    · exact hge c (.inr (.inr (.inr (.inr hc))))
theorem Dp.newF (h : Dp w0 w g s q O1 O2 g3 k n m sc ks v3 v inner fp W) (hW : ∀ b, b ≠ w.heap.size + 1 → W1.heap[b]? = W.heap[b]?) : NewF w.heap.size W1 ⟨k, n, m, sc, ks⟩ v3 v := by
  have hge := h.ge
  refine ⟨_, .mk ⟨k, n, m, sc, ks⟩ v3 v inner fp (own_move h.o3 (fun b hb => hW b ?_)) (own_move h.o4 (fun b hb => hW b ?_)) (h.tr.move _ (fun b hb => hW b ?_)), h.nd, fun b hb => ?_⟩
  · have := hge b (by simp [obs_mem, hb]); omega
  · have := hge b (by simp [obs_mem, hb]); omega
  · have := hge b (by simp [hb]); omega
  · have := hge b hb; omega
/-- The copy of a form is laid into its variable. -/
theorem Dp.start {w1 : World} {x : Fm} (hd : Dr w0 w g s q w1) (hk1 : w1.heap[w.heap.size]? = some O1) (hk2 : w1.heap[w.heap.size + 1]? = some O2) (hn : NewF (w.heap.size + 2) w1 x v3 v) : ∃ inner fp, Dp w0 w g s q O1 O2 w1.heap.size x.f0 x.f1 x.f2 x.f3 x.f4 v3 v inner fp (w1.alloc (.cells #[.int .i64 x.f0, .string x.f1, .int .i64 x.f2, v3, v] 26 (0, 0))) := by
  obtain ⟨fp, ht, hnd, hge⟩ := hn
  have hb := below_new w1 (.cells #[.int .i64 x.f0, .string x.f1, .int .i64 x.f2, v3, v] 26 (0, 0))
  have hlt := ht.lt x
  have h2 := blk_lt hk2
  obtain ⟨inner, fk, rfl, o3, o4, hk⟩ := ht.open
  refine ⟨inner, fk, hd.later hb, blk_below hk1 hb, blk_below hk2 hb, blk_new _ _, by omega, own_move o3 (fun b hb2 => hb.block b (hlt b (by simp [obs_mem, hb2]))), own_move o4 (fun b hb2 => hb.block b (hlt b (by simp [obs_mem, hb2]))), hk.later hb, hnd, fun b hb2 => ⟨hge b hb2, by have := hlt b hb2; omega⟩⟩
end
end Go.Proofs.YteeepenncddnjaaDoor
end
section
namespace Go.Proofs.YteeepenncddnjaaDoor
open Go.RowKit Go.Proofs.YteeepenncddnjaaDoorW.PrintWords
set_option linter.unusedVariables false
theorem Ev.some {α : Type} {o : Option α} {r : α} (h : o = some r) : Ev (fun _ => o) r := ⟨0, fun _ _ => h⟩
theorem Ev.pos {α : Type} {c : Prop} [Decidable c] {a b : Nat → Option α} {r : α} (h : c) (e : Ev a r) : Ev (fun k => if c then a k else b k) r := by
  simp only [if_pos h]; exact e
theorem Ev.neg {α : Type} {c : Prop} [Decidable c] {a b : Nat → Option α} {r : α} (h : ¬ c) (e : Ev b r) : Ev (fun k => if c then a k else b k) r := by
  simp only [if_neg h]; exact e
theorem ev_loop {R S : Type} {L : Nat → S → Option R} (Inv : Nat → S → Prop) (n : Nat) (Post : R → Prop)
    (hs : ∀ i s, i < n → Inv i s → ∃ s', Inv (i + 1) s' ∧ ∀ r, Ev (fun k => L k s') r → Ev (fun k => L k s) r)
    (he : ∀ s, Inv n s → ∃ r, Post r ∧ Ev (fun k => L k s) r) : ∀ s, Inv 0 s → ∃ r, Post r ∧ Ev (fun k => L k s) r := by
  have key : ∀ m i s, i + m = n → Inv i s → ∃ r, Post r ∧ Ev (fun k => L k s) r := by
    intro m
    induction m with
    | zero => intro i s hi h; obtain rfl : i = n := by omega
              exact he s h
    | succ m ih =>
      intro i s hi h
      obtain ⟨s', h', hk⟩ := hs i s (by omega) h
      obtain ⟨r, hp, hr⟩ := ih (i + 1) s' (by omega) h'
      exact ⟨r, hp, hk r hr⟩
  exact fun s h => key n 0 s (by omega) h
theorem wr1 (i : Nat) (h : i < 4611686018427387904) : wrap64 ((i : Int) + 1) = ((i + 1 : Nat) : Int) := by
  rw [Go.IntWalk.wrap64_in _ ⟨by omega, by omega⟩]; omega
end Go.Proofs.YteeepenncddnjaaDoor
end
section
namespace Go.Proofs.YteeepenncddnjaaDoor.Q
open Go.RowKit Go.Proofs.YteeepenncddnjaaDoorW.PrintWords Go.Proofs.YteeepenncddnjaaDoorW.PrintLast Go.Proofs.YteeepenncddnjaaDoorW.PrintMore
set_option linter.unusedVariables false
set_option linter.unusedSimpArgs false

noncomputable def spec_NameValid.f (a0 : ByteArray) : Option (Bool) := gIf (a0.size ≤ 140737488351232) (nmB a0)
set_option maxRecDepth 100000 in
theorem spec_NameValid.calls (a0 : ByteArray) (r : Bool) (w : World)  (h : spec_NameValid.f a0 = some r) :
    Calls Tryd.prog 50 #[.string a0] w fun e w' => e = .returned (.bool r) ∧ Below w.heap.size w w' := by
  obtain ⟨ht, rfl⟩ := gIf_some h
  exact specName_any a0 w ht

noncomputable def spec_l1Scopes.f (l0 : List Int) : Option (Bool) := some (pB (ScOk l0))
set_option maxRecDepth 100000 in
theorem spec_l1Scopes.calls (A0 : Option Addr) (c0 : Nat) (l0 : List Int) (r : Bool) (w : World) (hr0 : Kd.C (Kd.int .i64) w A0 l0.length l0) (hc0 : l0.length ≤ c0) (h : spec_l1Scopes.f l0 = some r) :
    Calls Tryd.prog 51 #[.slice A0 l0.length c0] w fun e w' => e = .returned (.bool r) ∧ Below w.heap.size w w' := by
  obtain rfl := Option.some.inj h
  exact l1Scopes_any l0 A0 c0 w hr0 hc0

noncomputable def spec_FormValid.f (a0_0 : Int) (a0_1 : ByteArray) (a0_2 : Int) (l0_3 : List Int) (l0_4 : List (S26)) : Option (Bool) := gIf ((⟨a0_0, a0_1, a0_2, l0_3, l0_4⟩ : Fm).tot ≤ 1048576) (pB (FmOk (⟨a0_0, a0_1, a0_2, l0_3, l0_4⟩ : Fm)))
set_option maxRecDepth 100000 in
theorem spec_FormValid.calls (a0_0 : Int) (a0_1 : ByteArray) (a0_2 : Int) (A0_3 : Option Addr) (c0_3 : Nat) (l0_3 : List Int) (A0_4 : Option Addr) (c0_4 : Nat) (l0_4 : List (S26)) (r : Bool) (w : World) (hr0_3 : Kd.C (Kd.int .i64) w A0_3 l0_3.length l0_3) (hc0_3 : l0_3.length ≤ c0_3) (hr0_4 : Kd.C k26 w A0_4 l0_4.length l0_4) (hc0_4 : l0_4.length ≤ c0_4) (h : spec_FormValid.f a0_0 a0_1 a0_2 l0_3 l0_4 = some r) :
    Calls Tryd.prog 39 #[.agg #[.int .i64 a0_0, .string a0_1, .int .i64 a0_2, .slice A0_3 l0_3.length c0_3, .slice A0_4 l0_4.length c0_4]] w fun e w' => e = .returned (.bool r) ∧ Below w.heap.size w w' := by
  obtain ⟨ht, rfl⟩ := gIf_some h
  exact specValid_any (⟨a0_0, a0_1, a0_2, l0_3, l0_4⟩ : Fm) A0_3 c0_3 A0_4 c0_4 w ⟨hc0_3, hr0_3, hc0_4, hr0_4⟩ ht

noncomputable def slices_Clone_int_int.f (l0 : List Int) : Option ((List Int)) := gIf (l0.length ≤ 17592186044416) l0
set_option maxRecDepth 100000 in
theorem slices_Clone_int_int.calls (A0 : Option Addr) (c0 : Nat) (l0 : List Int) (r : List Int) (w : World) (hr0 : Kd.C (Kd.int .i64) w A0 l0.length l0) (hc0 : l0.length ≤ c0) (h : slices_Clone_int_int.f l0 = some r) :
    Calls Tryd.prog 70 #[.slice A0 l0.length c0] w fun e w' => ∃ v0_ : Value, e = .returned (v0_) ∧ Kd.R (Kd.int .i64) 3 w' w.heap.size (fun k_ => True) v0_ r ∧ Below w.heap.size w w' := by
  obtain ⟨ht, rfl⟩ := gIf_some h
  exact cloneI_any l0 A0 c0 w hr0 hc0 ht

noncomputable def spec_l1Ints.f (l0 : List Int) (l1 : List Int) : Option (Bool) := some (decide (l0 = l1))
set_option maxRecDepth 100000 in
theorem spec_l1Ints.calls (A0 : Option Addr) (c0 : Nat) (l0 : List Int) (A1 : Option Addr) (c1 : Nat) (l1 : List Int) (r : Bool) (w : World) (hr0 : Kd.C (Kd.int .i64) w A0 l0.length l0) (hc0 : l0.length ≤ c0) (hr1 : Kd.C (Kd.int .i64) w A1 l1.length l1) (hc1 : l1.length ≤ c1) (h : spec_l1Ints.f l0 l1 = some r) :
    Calls Tryd.prog 35 #[.slice A0 l0.length c0, .slice A1 l1.length c1] w fun e w' => e = .returned (.bool r) ∧ Below w.heap.size w w' := by
  obtain rfl := Option.some.inj h
  exact l1Ints_any l0 l1 A0 A1 c0 c1 w hr0 hc0 hr1 hc1

end Go.Proofs.YteeepenncddnjaaDoor.Q
end
section
namespace Go.Proofs.YteeepenncddnjaaDoor
open Go.RowKit Go.Proofs.YteeepenncddnjaaDoorW.PrintWords Go.Proofs.YteeepenncddnjaaDoor.Q
set_option linter.unusedVariables false
theorem bits_xor (a b : Nat) (ha : a < 2 ^ 40) (hb : b < 2 ^ 40) : bits .xor .i64 (a : Int) (b : Int) = ((a ^^^ b : Nat) : Int) := by
  have hp : (2 : Nat) ^ 40 ≤ 2 ^ IntKind.i64.bits := Nat.pow_le_pow_right (by decide) (by decide)
  have ha' : a % 2 ^ IntKind.i64.bits = a := Nat.mod_eq_of_lt (Nat.lt_of_lt_of_le ha hp)
  have hb' : b % 2 ^ IntKind.i64.bits = b := Nat.mod_eq_of_lt (Nat.lt_of_lt_of_le hb hp)
  simp only [bits, BitVec.ofInt_natCast, BitVec.toNat_xor, BitVec.toNat_ofNat, ha', hb']
  have h : a ^^^ b < 2 ^ 40 := Nat.xor_lt_two_pow ha hb
  rw [IntKind.wrap_i64]
  omega
/-- The bytes of an input. -/
def Bts (s : List Int) : Prop := s.length ≤ 2000 ∧ ∀ z, z ∈ s → 0 ≤ z ∧ z < 256
theorem rd_bts {s : List Int} (h : ∀ z, z ∈ s → 0 ≤ z ∧ z < 256) (i : Int) : 0 ≤ rd s i ∧ rd s i < 256 := by
  simp only [rd, List.getD]
  by_cases hi : i.toNat < s.length
  · rw [List.getElem?_eq_getElem hi]; exact h _ (List.getElem_mem hi)
  · rw [List.getElem?_eq_none (by omega)]; simp
theorem wr_in {n : Int} (h0 : 0 ≤ n) (h1 : n < 4611686018427387904) : wrap64 n = n := Go.IntWalk.wrap64_in _ ⟨by omega, by omega⟩
theorem wrN {m : Int} {n : Nat} (h : m = (n : Int)) (hn : n < 4611686018427387904) : wrap64 m = (n : Int) := by
  subst h
  exact wr_in (by omega) (by omega)
theorem pick_num (a c p dv u : Nat) (ha : a < 256) (hc : c < 256) (hp : p ≤ 1000000) (hd : dv ≤ p) (eu : u = a * 131 + c * 1117 + p * 29 + dv * 53) :
    wrap64 (a : Int) = (a : Int) ∧ wrap64 (c : Int) = (c : Int) ∧ wrap64 ((a : Int) * 131) = ((a * 131 : Nat) : Int) ∧ wrap64 ((c : Int) * 1117) = ((c * 1117 : Nat) : Int) ∧
    wrap64 (((a * 131 : Nat) : Int) + ((c * 1117 : Nat) : Int)) = ((a * 131 + c * 1117 : Nat) : Int) ∧ wrap64 ((p : Int) * 29) = ((p * 29 : Nat) : Int) ∧
    wrap64 (((a * 131 + c * 1117 : Nat) : Int) + ((p * 29 : Nat) : Int)) = ((a * 131 + c * 1117 + p * 29 : Nat) : Int) ∧ wrap64 (dv : Int) = (dv : Int) ∧
    wrap64 ((dv : Int) * 53) = ((dv * 53 : Nat) : Int) ∧ wrap64 (((a * 131 + c * 1117 + p * 29 : Nat) : Int) + ((dv * 53 : Nat) : Int)) = (u : Int) ∧
    wrap64 ((u / 64 : Nat) : Int) = ((u / 64 : Nat) : Int) ∧ bits .xor .i64 (u : Int) ((u / 64 : Nat) : Int) = ((u ^^^ (u / 64) : Nat) : Int) := by
  have hu : u < 1000000000 := by omega
  refine ⟨wrN rfl (by omega), wrN rfl (by omega), wrN (by simp) (by omega), wrN (by simp) (by omega), wrN (by simp) (by omega), wrN (by simp) (by omega), wrN (by simp) (by omega), wrN rfl (by omega), wrN (by simp) (by omega), wrN (by subst eu; simp) (by omega), wrN rfl (by omega), bits_xor _ _ (by omega) (by omega)⟩
theorem ev_pick {s : List Int} (hs : Bts s) (p : Nat) (hp : p ≤ 1000000) (n : Int) (hn : n ≤ 1000000) :
    ∃ v : Int, (1 ≤ n → 0 ≤ v ∧ v < n) ∧ Ev (fun k => spec_l15Rd_pick.f k s (p : Int) n) (v, ((p + 1 : Nat) : Int)) := by
  obtain ⟨hl, hb⟩ := hs
  have e1 : wrap64 ((p : Int) + 1) = ((p + 1 : Nat) : Int) := wr1 p (by omega)
  have e2 : wrap64 (((p + 1 : Nat) : Int) - 1) = (p : Int) := by rw [wr_in (by omega) (by omega)]; omega
  by_cases h1 : n < 1
  · refine ⟨0, fun h => by omega, ?_⟩
    simp only [spec_l15Rd_pick.f]
    refine Ev.pos h1 (Ev.step (fun k => by rw [spec_l15Rd_pick.j0]) (Ev.pos rfl ?_))
    rw [e1]; exact Ev.now _
  · by_cases h2 : s.length = 0
    · refine ⟨0, fun h => by omega, ?_⟩
      simp only [spec_l15Rd_pick.f]
      refine Ev.neg h1 (Ev.step (fun k => by rw [spec_l15Rd_pick.j0]) (Ev.pos (by simp [h2]) ?_))
      rw [e1]; exact Ev.now _
    · have h0 : (s.length : Int) ≠ 0 := by omega
      by_cases h3 : (p : Int) < (s.length : Int)
      · have hv := rd_bts hb (p : Int)
        refine ⟨Int.tmod (rd s p) n, fun h => ⟨Int.tmod_nonneg _ hv.1, Int.tmod_lt_of_pos _ (by omega)⟩, ?_⟩
        simp only [spec_l15Rd_pick.f]
        refine Ev.neg h1 (Ev.step (fun k => by rw [spec_l15Rd_pick.j0]) (Ev.neg (by simpa using h0) ?_))
        rw [e1, e2, wr_in hv.1 (by omega)]
        exact Ev.pos h3 (Ev.pos (by omega) (Ev.neg (by omega) (Ev.now _)))
      · obtain ⟨q, eq⟩ : ∃ q : Nat, q = p % s.length := ⟨_, rfl⟩
        obtain ⟨t, et⟩ : ∃ t : Nat, t = (p * 7 + 3) % s.length := ⟨_, rfl⟩
        obtain ⟨dv, ed⟩ : ∃ dv : Nat, dv = p / s.length := ⟨_, rfl⟩
        have hq : q < s.length := by rw [eq]; exact Nat.mod_lt _ (by omega)
        have ht : t < s.length := by rw [et]; exact Nat.mod_lt _ (by omega)
        have hd : dv ≤ p := by rw [ed]; exact Nat.div_le_self _ _
        have m1 : Int.tmod (p : Int) (s.length : Int) = (q : Int) := by rw [eq]; exact Go.IntWalk.up_tmod rfl rfl
        have w1 : wrap64 ((p : Int) * 7) = ((p * 7 : Nat) : Int) := wrN (by omega) (by omega)
        have w2 : wrap64 (((p * 7 : Nat) : Int) + 3) = ((p * 7 + 3 : Nat) : Int) := wrN (by omega) (by omega)
        have m2 : Int.tmod ((p * 7 + 3 : Nat) : Int) (s.length : Int) = (t : Int) := by rw [et]; exact Go.IntWalk.up_tmod rfl rfl
        have ha := rd_bts hb (q : Int)
        have hc := rd_bts hb (t : Int)
        obtain ⟨a, ea⟩ := Int.eq_ofNat_of_zero_le ha.1
        obtain ⟨c, ec⟩ := Int.eq_ofNat_of_zero_le hc.1
        have d1 : Int.tdiv (p : Int) (s.length : Int) = (dv : Int) := by rw [ed]; exact Go.IntWalk.up_tdiv rfl rfl
        rw [ea] at ha
        rw [ec] at hc
        obtain ⟨u, eu⟩ : ∃ u : Nat, u = a * 131 + c * 1117 + p * 29 + dv * 53 := ⟨_, rfl⟩
        clear eq et ed
        obtain ⟨wa, wc, wa2, wc2, w3, w4, w5, w6, w7, w8, w9, wb⟩ := pick_num a c p dv u (Int.ofNat_lt.1 ha.2) (Int.ofNat_lt.1 hc.2) hp hd eu
        have d2 : Int.tdiv (u : Int) 64 = ((u / 64 : Nat) : Int) := Go.IntWalk.up_tdiv rfl rfl
        refine ⟨Int.tmod ((u ^^^ (u / 64) : Nat) : Int) n, fun h => ⟨Int.tmod_nonneg _ (by omega), Int.tmod_lt_of_pos _ (by omega)⟩, ?_⟩
        simp only [spec_l15Rd_pick.f]
        refine Ev.neg h1 (Ev.step (fun k => by rw [spec_l15Rd_pick.j0]) (Ev.neg (by simpa using h0) ?_))
        simp only [e1, e2, w1, w2, m1, m2, d1, ea, ec, wa, wc, wa2, wc2, w3, w4, w5, w6, w7, w8, d2, w9, wb]
        exact Ev.neg h3 (Ev.neg h0 (Ev.pos (by omega) (Ev.pos (by omega) (Ev.pos (by omega) (Ev.pos (by omega) (Ev.neg (by omega) (Ev.now _)))))))
theorem ev_num {s : List Int} (hs : Bts s) (p : Nat) (hp : p ≤ 1000000) (l : List Int) (h1 : l ≠ []) (h2 : l.length ≤ 1000) :
    ∃ v : Int, v ∈ l ∧ Ev (fun k => spec_l15Rd_num.f k s (p : Int) l) (v, ((p + 1 : Nat) : Int)) := by
  have hl : 0 < l.length := List.length_pos_iff.2 h1
  obtain ⟨v, hv, he⟩ := ev_pick hs p hp (l.length : Int) (by omega)
  obtain ⟨h0, hn⟩ := hv (by omega)
  refine ⟨rd l v, ?_, ?_⟩
  · have : v.toNat < l.length := by omega
    simp only [rd, List.getD, List.getElem?_eq_getElem this, Option.getD_some]
    exact List.getElem_mem this
  · simp only [spec_l15Rd_num.f]
    exact Ev.bind he (Ev.pos h0 (Ev.pos hn (Ev.now _)))
theorem ev_of {s : List Int} (hs : Bts s) (p : Nat) (hp : p ≤ 1000000) (l : List ByteArray) (h1 : l ≠ []) (h2 : l.length ≤ 1000) :
    ∃ v : ByteArray, v ∈ l ∧ Ev (fun k => spec_l15Rd_of.f k s (p : Int) l) (v, ((p + 1 : Nat) : Int)) := by
  have hl : 0 < l.length := List.length_pos_iff.2 h1
  obtain ⟨v, hv, he⟩ := ev_pick hs p hp (l.length : Int) (by omega)
  obtain ⟨h0, hn⟩ := hv (by omega)
  refine ⟨rdOf ByteArray.empty l v, ?_, ?_⟩
  · have : v.toNat < l.length := by omega
    simp only [rdOf, List.getD, List.getElem?_eq_getElem this, Option.getD_some]
    exact List.getElem_mem this
  · simp only [spec_l15Rd_of.f]
    exact Ev.bind he (Ev.pos h0 (Ev.pos hn (Ev.now _)))
theorem ev_open (l : List Int) (h : ∀ z, z ∈ l → 0 ≤ z ∧ z < 256) : ∃ s, Bts s ∧ spec_l15Open.f l = some (s, 0) := by
  unfold spec_l15Open.f
  by_cases h2 : (l.length : Int) > 2000
  · rw [if_pos h2, if_pos (by omega)]
    exact ⟨_, ⟨by simp; omega, fun z hz => h z (List.mem_of_mem_take hz)⟩, rfl⟩
  · rw [if_neg h2]
    exact ⟨_, ⟨by omega, h⟩, rfl⟩
end Go.Proofs.YteeepenncddnjaaDoor
end
