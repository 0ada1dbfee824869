/- Words for the laws' proofs (part 3): contracts of functions, and plain lemmas. -/
import Derived.Laws.BitsLemmas
import Derived.Test.YteonncnhhccgeaaPk1
import Derived.Test.YteonncnhhccgeaaPk2
section
namespace Go.Proofs.Yteonncnhhccgeaa.Q
open Go.RowKit Go.Proofs.YteonncnhhccgeaaW.PrintWords Go.Proofs.YteonncnhhccgeaaW.PrintLast Go.Proofs.YteonncnhhccgeaaW.PrintMore
set_option linter.unusedVariables false
set_option linter.unusedSimpArgs false

/-! ### impl_ScopesWithin: function 28, proved by hand -/
noncomputable def impl_ScopesWithin.f (l0 : List Int) (l1 : List Int) : Option (Bool) := some (decide (∀ x, x ∈ l0 → x ∈ l1))
set_option maxRecDepth 100000 in
theorem impl_ScopesWithin.calls (A0 : Option Addr) (c0 : Nat) (l0 : List Int) (A1 : Option Addr) (c1 : Nat) (l1 : List Int) (r : Bool) (w : World) (hr0 : Kd.C (Kd.int .i64) w A0 l0.length l0) (hc0 : l0.length ≤ c0) (hr1 : Kd.C (Kd.int .i64) w A1 l1.length l1) (hc1 : l1.length ≤ c1) (h : impl_ScopesWithin.f l0 l1 = some r) :
    Calls Try.prog 28 #[.slice A0 l0.length c0, .slice A1 l1.length c1] w fun e w' => e = .returned (.bool r) ∧ Below w.heap.size w w' := by
  obtain rfl := Option.some.inj h
  exact implWithin_any l0 l1 A0 A1 c0 c1 w hr0 hc0 hr1 hc1

/-! ### spec_l2Has: function 83, proved by hand -/
noncomputable def spec_l2Has.f (l0 : List Int) (a1 : Int) : Option (Bool) := some (decide (a1 ∈ l0))
set_option maxRecDepth 100000 in
theorem spec_l2Has.calls (A0 : Option Addr) (c0 : Nat) (l0 : List Int) (a1 : Int) (r : Bool) (w : World) (hr0 : Kd.C (Kd.int .i64) w A0 l0.length l0) (hc0 : l0.length ≤ c0) (h : spec_l2Has.f l0 a1 = some r) :
    Calls Try.prog 83 #[.slice A0 l0.length c0, .int .i64 a1] w fun e w' => e = .returned (.bool r) ∧ Below w.heap.size w w' := by
  obtain rfl := Option.some.inj h
  exact l2Has_any l0 a1 A0 c0 w hr0 hc0

/-! ### spec_ScopesWithin: function 29, proved by hand -/
noncomputable def spec_ScopesWithin.f (l0 : List Int) (l1 : List Int) : Option (Bool) := some (decide (∀ x, x ∈ l0 → x ∈ l1))
set_option maxRecDepth 100000 in
theorem spec_ScopesWithin.calls (A0 : Option Addr) (c0 : Nat) (l0 : List Int) (A1 : Option Addr) (c1 : Nat) (l1 : List Int) (r : Bool) (w : World) (hr0 : Kd.C (Kd.int .i64) w A0 l0.length l0) (hc0 : l0.length ≤ c0) (hr1 : Kd.C (Kd.int .i64) w A1 l1.length l1) (hc1 : l1.length ≤ c1) (h : spec_ScopesWithin.f l0 l1 = some r) :
    Calls Try.prog 29 #[.slice A0 l0.length c0, .slice A1 l1.length c1] w fun e w' => e = .returned (.bool r) ∧ Below w.heap.size w w' := by
  obtain rfl := Option.some.inj h
  exact specWithin_any l0 l1 A0 A1 c0 c1 w hr0 hc0 hr1 hc1

/-! ### impl_within: function 106, proved by hand -/
noncomputable def impl_within.f (a0 : Int) (a1 : Int) (a2 : Int) : Option (Bool) := some (decide (a1 ≤ a0 ∧ a0 ≤ a2))
set_option maxRecDepth 100000 in
theorem impl_within.calls (a0 : Int) (a1 : Int) (a2 : Int) (r : Bool) (w : World)  (h : impl_within.f a0 a1 a2 = some r) :
    Calls Try.prog 106 #[.int .i64 a0, .int .i64 a1, .int .i64 a2] w fun e w' => e = .returned (.bool r) ∧ Below w.heap.size w w' := by
  obtain rfl := Option.some.inj h
  exact within_any a0 a1 a2 w

/-! ### impl_NameValid: function 104, proved by hand -/
noncomputable def impl_NameValid.f (a0 : ByteArray) : Option (Bool) := gIf (a0.size ≤ 140737488351232) (nmB a0)
set_option maxRecDepth 100000 in
theorem impl_NameValid.calls (a0 : ByteArray) (r : Bool) (w : World)  (h : impl_NameValid.f a0 = some r) :
    Calls Try.prog 104 #[.string a0] w fun e w' => e = .returned (.bool r) ∧ Below w.heap.size w w' := by
  obtain ⟨ht, rfl⟩ := gIf_some h
  exact implName_any a0 w ht

/-! ### impl_scopesOk: function 105, proved by hand -/
noncomputable def impl_scopesOk.f (l0 : List Int) : Option (Bool) := some (pB (ScOk l0))
set_option maxRecDepth 100000 in
theorem impl_scopesOk.calls (A0 : Option Addr) (c0 : Nat) (l0 : List Int) (r : Bool) (w : World) (hr0 : Kd.C (Kd.int .i64) w A0 l0.length l0) (hc0 : l0.length ≤ c0) (h : impl_scopesOk.f l0 = some r) :
    Calls Try.prog 105 #[.slice A0 l0.length c0] w fun e w' => e = .returned (.bool r) ∧ Below w.heap.size w w' := by
  obtain rfl := Option.some.inj h
  exact scopesOk_any l0 A0 c0 w hr0 hc0

/-! ### impl_FormValid: function 47, proved by hand -/
noncomputable def impl_FormValid.f (a0_0 : Int) (a0_1 : ByteArray) (a0_2 : Int) (l0_3 : List Int) (l0_4 : List (S31)) : Option (Bool) := gIf ((⟨a0_0, a0_1, a0_2, l0_3, l0_4⟩ : Fm).tot ≤ 1048576) (pB (FmOk (⟨a0_0, a0_1, a0_2, l0_3, l0_4⟩ : Fm)))
set_option maxRecDepth 100000 in
theorem impl_FormValid.calls (a0_0 : Int) (a0_1 : ByteArray) (a0_2 : Int) (A0_3 : Option Addr) (c0_3 : Nat) (l0_3 : List Int) (A0_4 : Option Addr) (c0_4 : Nat) (l0_4 : List (S31)) (r : Bool) (w : World) (hr0_3 : Kd.C (Kd.int .i64) w A0_3 l0_3.length l0_3) (hc0_3 : l0_3.length ≤ c0_3) (hr0_4 : Kd.C k31 w A0_4 l0_4.length l0_4) (hc0_4 : l0_4.length ≤ c0_4) (h : impl_FormValid.f a0_0 a0_1 a0_2 l0_3 l0_4 = some r) :
    Calls Try.prog 47 #[.agg #[.int .i64 a0_0, .string a0_1, .int .i64 a0_2, .slice A0_3 l0_3.length c0_3, .slice A0_4 l0_4.length c0_4]] w fun e w' => e = .returned (.bool r) ∧ Below w.heap.size w w' := by
  obtain ⟨ht, rfl⟩ := gIf_some h
  exact implValid_any (⟨a0_0, a0_1, a0_2, l0_3, l0_4⟩ : Fm) A0_3 c0_3 A0_4 c0_4 w ⟨hc0_3, hr0_3, hc0_4, hr0_4⟩ ht

/-! ### slices_Clone_int_int: function 128, proved by hand -/
noncomputable def slices_Clone_int_int.f (l0 : List Int) : Option ((List Int)) := gIf (l0.length ≤ 17592186044416) l0
set_option maxRecDepth 100000 in
theorem slices_Clone_int_int.calls (A0 : Option Addr) (c0 : Nat) (l0 : List Int) (r : List Int) (w : World) (hr0 : Kd.C (Kd.int .i64) w A0 l0.length l0) (hc0 : l0.length ≤ c0) (h : slices_Clone_int_int.f l0 = some r) :
    Calls Try.prog 128 #[.slice A0 l0.length c0] w fun e w' => ∃ v0_ : Value, e = .returned (v0_) ∧ Kd.R (Kd.int .i64) 3 w' w.heap.size (fun k_ => True) v0_ r ∧ Below w.heap.size w w' := by
  obtain ⟨ht, rfl⟩ := gIf_some h
  exact cloneI_any l0 A0 c0 w hr0 hc0 ht

/-! ### spec_NameValid: function 109, proved by hand -/
noncomputable def spec_NameValid.f (a0 : ByteArray) : Option (Bool) := gIf (a0.size ≤ 140737488351232) (nmB a0)
set_option maxRecDepth 100000 in
theorem spec_NameValid.calls (a0 : ByteArray) (r : Bool) (w : World)  (h : spec_NameValid.f a0 = some r) :
    Calls Try.prog 109 #[.string a0] w fun e w' => e = .returned (.bool r) ∧ Below w.heap.size w w' := by
  obtain ⟨ht, rfl⟩ := gIf_some h
  exact specName_any a0 w ht

/-! ### spec_l1Scopes: function 110, proved by hand -/
noncomputable def spec_l1Scopes.f (l0 : List Int) : Option (Bool) := some (pB (ScOk l0))
set_option maxRecDepth 100000 in
theorem spec_l1Scopes.calls (A0 : Option Addr) (c0 : Nat) (l0 : List Int) (r : Bool) (w : World) (hr0 : Kd.C (Kd.int .i64) w A0 l0.length l0) (hc0 : l0.length ≤ c0) (h : spec_l1Scopes.f l0 = some r) :
    Calls Try.prog 110 #[.slice A0 l0.length c0] w fun e w' => e = .returned (.bool r) ∧ Below w.heap.size w w' := by
  obtain rfl := Option.some.inj h
  exact l1Scopes_any l0 A0 c0 w hr0 hc0

/-! ### spec_FormValid: function 119, proved by hand -/
noncomputable def spec_FormValid.f (a0_0 : Int) (a0_1 : ByteArray) (a0_2 : Int) (l0_3 : List Int) (l0_4 : List (S31)) : Option (Bool) := gIf ((⟨a0_0, a0_1, a0_2, l0_3, l0_4⟩ : Fm).tot ≤ 1048576) (pB (FmOk (⟨a0_0, a0_1, a0_2, l0_3, l0_4⟩ : Fm)))
set_option maxRecDepth 100000 in
theorem spec_FormValid.calls (a0_0 : Int) (a0_1 : ByteArray) (a0_2 : Int) (A0_3 : Option Addr) (c0_3 : Nat) (l0_3 : List Int) (A0_4 : Option Addr) (c0_4 : Nat) (l0_4 : List (S31)) (r : Bool) (w : World) (hr0_3 : Kd.C (Kd.int .i64) w A0_3 l0_3.length l0_3) (hc0_3 : l0_3.length ≤ c0_3) (hr0_4 : Kd.C k31 w A0_4 l0_4.length l0_4) (hc0_4 : l0_4.length ≤ c0_4) (h : spec_FormValid.f a0_0 a0_1 a0_2 l0_3 l0_4 = some r) :
    Calls Try.prog 119 #[.agg #[.int .i64 a0_0, .string a0_1, .int .i64 a0_2, .slice A0_3 l0_3.length c0_3, .slice A0_4 l0_4.length c0_4]] w fun e w' => e = .returned (.bool r) ∧ Below w.heap.size w w' := by
  obtain ⟨ht, rfl⟩ := gIf_some h
  exact specValid_any (⟨a0_0, a0_1, a0_2, l0_3, l0_4⟩ : Fm) A0_3 c0_3 A0_4 c0_4 w ⟨hc0_3, hr0_3, hc0_4, hr0_4⟩ ht

/-! ### slices_Equal_int_int: function 89, proved by hand -/
noncomputable def slices_Equal_int_int.f (l0 : List Int) (l1 : List Int) : Option (Bool) := some (decide (l0 = l1))
set_option maxRecDepth 100000 in
theorem slices_Equal_int_int.calls (A0 : Option Addr) (c0 : Nat) (l0 : List Int) (A1 : Option Addr) (c1 : Nat) (l1 : List Int) (r : Bool) (w : World) (hr0 : Kd.C (Kd.int .i64) w A0 l0.length l0) (hc0 : l0.length ≤ c0) (hr1 : Kd.C (Kd.int .i64) w A1 l1.length l1) (hc1 : l1.length ≤ c1) (h : slices_Equal_int_int.f l0 l1 = some r) :
    Calls Try.prog 89 #[.slice A0 l0.length c0, .slice A1 l1.length c1] w fun e w' => e = .returned (.bool r) ∧ Below w.heap.size w w' := by
  obtain rfl := Option.some.inj h
  exact equalI_any l0 l1 A0 A1 c0 c1 w hr0 hc0 hr1 hc1

/-! ### impl_FormSame: function 33, proved by hand -/
noncomputable def impl_FormSame.f (a0_0 : Int) (a0_1 : ByteArray) (a0_2 : Int) (l0_3 : List Int) (l0_4 : List (S31)) (a1_0 : Int) (a1_1 : ByteArray) (a1_2 : Int) (l1_3 : List Int) (l1_4 : List (S31)) : Option (Bool) := some (eqB (⟨a0_0, a0_1, a0_2, l0_3, l0_4⟩ : Fm) (⟨a1_0, a1_1, a1_2, l1_3, l1_4⟩ : Fm))
set_option maxRecDepth 100000 in
theorem impl_FormSame.calls (a0_0 : Int) (a0_1 : ByteArray) (a0_2 : Int) (A0_3 : Option Addr) (c0_3 : Nat) (l0_3 : List Int) (A0_4 : Option Addr) (c0_4 : Nat) (l0_4 : List (S31)) (a1_0 : Int) (a1_1 : ByteArray) (a1_2 : Int) (A1_3 : Option Addr) (c1_3 : Nat) (l1_3 : List Int) (A1_4 : Option Addr) (c1_4 : Nat) (l1_4 : List (S31)) (r : Bool) (w : World) (hr0_3 : Kd.C (Kd.int .i64) w A0_3 l0_3.length l0_3) (hc0_3 : l0_3.length ≤ c0_3) (hr0_4 : Kd.C k31 w A0_4 l0_4.length l0_4) (hc0_4 : l0_4.length ≤ c0_4) (hr1_3 : Kd.C (Kd.int .i64) w A1_3 l1_3.length l1_3) (hc1_3 : l1_3.length ≤ c1_3) (hr1_4 : Kd.C k31 w A1_4 l1_4.length l1_4) (hc1_4 : l1_4.length ≤ c1_4) (h : impl_FormSame.f a0_0 a0_1 a0_2 l0_3 l0_4 a1_0 a1_1 a1_2 l1_3 l1_4 = some r) :
    Calls Try.prog 33 #[.agg #[.int .i64 a0_0, .string a0_1, .int .i64 a0_2, .slice A0_3 l0_3.length c0_3, .slice A0_4 l0_4.length c0_4], .agg #[.int .i64 a1_0, .string a1_1, .int .i64 a1_2, .slice A1_3 l1_3.length c1_3, .slice A1_4 l1_4.length c1_4]] w fun e w' => e = .returned (.bool r) ∧ Below w.heap.size w w' := by
  obtain rfl := Option.some.inj h
  exact implSame_any (⟨a0_0, a0_1, a0_2, l0_3, l0_4⟩ : Fm) (⟨a1_0, a1_1, a1_2, l1_3, l1_4⟩ : Fm) A0_3 c0_3 A0_4 c0_4 A1_3 c1_3 A1_4 c1_4 w ⟨hc0_3, hr0_3, hc0_4, hr0_4⟩ ⟨hc1_3, hr1_3, hc1_4, hr1_4⟩

/-! ### impl_FormSize: function 40, proved by hand -/
noncomputable def impl_FormSize.f (a0_0 : Int) (a0_1 : ByteArray) (a0_2 : Int) (l0_3 : List Int) (l0_4 : List (S31)) : Option (Int) := gIf ((⟨a0_0, a0_1, a0_2, l0_3, l0_4⟩ : Fm).size < 4611686018427387904) ((⟨a0_0, a0_1, a0_2, l0_3, l0_4⟩ : Fm).size : Int)
set_option maxRecDepth 100000 in
theorem impl_FormSize.calls (a0_0 : Int) (a0_1 : ByteArray) (a0_2 : Int) (A0_3 : Option Addr) (c0_3 : Nat) (l0_3 : List Int) (A0_4 : Option Addr) (c0_4 : Nat) (l0_4 : List (S31)) (r : Int) (w : World) (hr0_3 : Kd.C (Kd.int .i64) w A0_3 l0_3.length l0_3) (hc0_3 : l0_3.length ≤ c0_3) (hr0_4 : Kd.C k31 w A0_4 l0_4.length l0_4) (hc0_4 : l0_4.length ≤ c0_4) (h : impl_FormSize.f a0_0 a0_1 a0_2 l0_3 l0_4 = some r) :
    Calls Try.prog 40 #[.agg #[.int .i64 a0_0, .string a0_1, .int .i64 a0_2, .slice A0_3 l0_3.length c0_3, .slice A0_4 l0_4.length c0_4]] w fun e w' => e = .returned (.int .i64 r) ∧ Below w.heap.size w w' := by
  obtain ⟨ht, rfl⟩ := gIf_some h
  exact implSize_any (⟨a0_0, a0_1, a0_2, l0_3, l0_4⟩ : Fm) A0_3 c0_3 A0_4 c0_4 w ⟨hc0_3, hr0_3, hc0_4, hr0_4⟩ ht

/-! ### spec_l1Ints: function 111, proved by hand -/
noncomputable def spec_l1Ints.f (l0 : List Int) (l1 : List Int) : Option (Bool) := some (decide (l0 = l1))
set_option maxRecDepth 100000 in
theorem spec_l1Ints.calls (A0 : Option Addr) (c0 : Nat) (l0 : List Int) (A1 : Option Addr) (c1 : Nat) (l1 : List Int) (r : Bool) (w : World) (hr0 : Kd.C (Kd.int .i64) w A0 l0.length l0) (hc0 : l0.length ≤ c0) (hr1 : Kd.C (Kd.int .i64) w A1 l1.length l1) (hc1 : l1.length ≤ c1) (h : spec_l1Ints.f l0 l1 = some r) :
    Calls Try.prog 111 #[.slice A0 l0.length c0, .slice A1 l1.length c1] w fun e w' => e = .returned (.bool r) ∧ Below w.heap.size w w' := by
  obtain rfl := Option.some.inj h
  exact l1Ints_any l0 l1 A0 A1 c0 c1 w hr0 hc0 hr1 hc1

/-! ### spec_FormSame: function 133, proved by hand -/
noncomputable def spec_FormSame.f (a0_0 : Int) (a0_1 : ByteArray) (a0_2 : Int) (l0_3 : List Int) (l0_4 : List (S31)) (a1_0 : Int) (a1_1 : ByteArray) (a1_2 : Int) (l1_3 : List Int) (l1_4 : List (S31)) : Option (Bool) := some (eqB (⟨a0_0, a0_1, a0_2, l0_3, l0_4⟩ : Fm) (⟨a1_0, a1_1, a1_2, l1_3, l1_4⟩ : Fm))
set_option maxRecDepth 100000 in
theorem spec_FormSame.calls (a0_0 : Int) (a0_1 : ByteArray) (a0_2 : Int) (A0_3 : Option Addr) (c0_3 : Nat) (l0_3 : List Int) (A0_4 : Option Addr) (c0_4 : Nat) (l0_4 : List (S31)) (a1_0 : Int) (a1_1 : ByteArray) (a1_2 : Int) (A1_3 : Option Addr) (c1_3 : Nat) (l1_3 : List Int) (A1_4 : Option Addr) (c1_4 : Nat) (l1_4 : List (S31)) (r : Bool) (w : World) (hr0_3 : Kd.C (Kd.int .i64) w A0_3 l0_3.length l0_3) (hc0_3 : l0_3.length ≤ c0_3) (hr0_4 : Kd.C k31 w A0_4 l0_4.length l0_4) (hc0_4 : l0_4.length ≤ c0_4) (hr1_3 : Kd.C (Kd.int .i64) w A1_3 l1_3.length l1_3) (hc1_3 : l1_3.length ≤ c1_3) (hr1_4 : Kd.C k31 w A1_4 l1_4.length l1_4) (hc1_4 : l1_4.length ≤ c1_4) (h : spec_FormSame.f a0_0 a0_1 a0_2 l0_3 l0_4 a1_0 a1_1 a1_2 l1_3 l1_4 = some r) :
    Calls Try.prog 133 #[.agg #[.int .i64 a0_0, .string a0_1, .int .i64 a0_2, .slice A0_3 l0_3.length c0_3, .slice A0_4 l0_4.length c0_4], .agg #[.int .i64 a1_0, .string a1_1, .int .i64 a1_2, .slice A1_3 l1_3.length c1_3, .slice A1_4 l1_4.length c1_4]] w fun e w' => e = .returned (.bool r) ∧ Below w.heap.size w w' := by
  obtain rfl := Option.some.inj h
  exact specSame_any (⟨a0_0, a0_1, a0_2, l0_3, l0_4⟩ : Fm) (⟨a1_0, a1_1, a1_2, l1_3, l1_4⟩ : Fm) A0_3 c0_3 A0_4 c0_4 A1_3 c1_3 A1_4 c1_4 w ⟨hc0_3, hr0_3, hc0_4, hr0_4⟩ ⟨hc1_3, hr1_3, hc1_4, hr1_4⟩
end Go.Proofs.Yteonncnhhccgeaa.Q
end
section
namespace Go.Proofs.Yteonncnhhccgeaa.Q
open Go.RowKit Go.Proofs.YteonncnhhccgeaaW.PrintWords Go.Proofs.YteonncnhhccgeaaW.PrintLast Go.Proofs.YteonncnhhccgeaaW.PrintMore
attribute [local go_sem] max2_int min2_int max_two min_two max_three min_three max_four min_four   -- for this text's walks alone
set_option linter.unusedVariables false
set_option linter.unusedSimpArgs false

/-! ### spec_l1Count: function 153 -/
mutual
def spec_l1Count.l0 : Nat → Int → Int → Int → ByteArray → Int → List Int → List (S31) → Option (Int)
  | 0, _, _, _, _, _, _, _ => none
  | k + 1, x3, x4, x162000, x162001, x162002, x162003, x162004 => if x4 < (x162004.length : Int) then (if 0 ≤ x4 then ((spec_l1Count.f k ((rd_T31 x162004 x4).f0) ((rd_T31 x162004 x4).f1) ((rd_T31 x162004 x4).f2) ((rd_T31 x162004 x4).f3) ((rd_T31 x162004 x4).f4)).bind fun t163 => (spec_l1Count.l0 k (wrap64 (x3 + t163)) (wrap64 (x4 + 1)) x162000 x162001 x162002 x162003 x162004)) else (none)) else (some x3)
def spec_l1Count.f : Nat → Int → ByteArray → Int → List Int → List (S31) → Option (Int)
  | 0, _, _, _, _, _ => none
  | k + 1, a0_0, a0_1, a0_2, l0_3, l0_4 => spec_l1Count.l0 k 1 0 a0_0 a0_1 a0_2 l0_3 l0_4
end
theorem spec_l1Count.mono_l : ∀ k, (∀ y0 y1 y2 y3 y4, LeO (spec_l1Count.f k y0 y1 y2 y3 y4) (spec_l1Count.f (k + 1) y0 y1 y2 y3 y4)) ∧ (∀ y0 y1 y2 y3 y4 y5 y6, LeO (spec_l1Count.l0 k y0 y1 y2 y3 y4 y5 y6) (spec_l1Count.l0 (k + 1) y0 y1 y2 y3 y4 y5 y6))
  | 0 => ⟨fun _ _ _ _ _ r h => by simp [spec_l1Count.f] at h, fun _ _ _ _ _ _ _ r h => by simp [spec_l1Count.l0] at h⟩
  | k + 1 => by
    obtain ⟨ih0, ih1⟩ := spec_l1Count.mono_l k
    refine ⟨?_, ?_⟩
    · intro y0 y1 y2 y3 y4
      unfold spec_l1Count.f
      repeat' first
      | (with_reducible exact ih0 _ _ _ _ _)
      | (with_reducible exact ih1 _ _ _ _ _ _ _)
      | (with_reducible exact LeO.refl _)
      | (with_reducible exact LeO.none _)
      | (with_reducible refine LeO.ite ?_ ?_)
      | (with_reducible refine LeO.bind ?_ (fun _ => ?_))
      | exact ih0 _ _ _ _ _
      | exact ih1 _ _ _ _ _ _ _
      | exact LeO.none _
      | refine LeO.ite ?_ ?_
      | refine LeO.bind ?_ (fun _ => ?_)
    · intro y0 y1 y2 y3 y4 y5 y6
      unfold spec_l1Count.l0
      repeat' first
      | (with_reducible exact ih0 _ _ _ _ _)
      | (with_reducible exact ih1 _ _ _ _ _ _ _)
      | (with_reducible exact LeO.refl _)
      | (with_reducible exact LeO.none _)
      | (with_reducible refine LeO.ite ?_ ?_)
      | (with_reducible refine LeO.bind ?_ (fun _ => ?_))
      | exact ih0 _ _ _ _ _
      | exact ih1 _ _ _ _ _ _ _
      | exact LeO.none _
      | refine LeO.ite ?_ ?_
      | refine LeO.bind ?_ (fun _ => ?_)
theorem spec_l1Count.mono : ∀ a0 a1 a2 a3 a4 k, LeO (spec_l1Count.f k a0 a1 a2 a3 a4) (spec_l1Count.f (k + 1) a0 a1 a2 a3 a4) := by
  intro a0 a1 a2 a3 a4 k
  obtain ⟨ih0, ih1⟩ := spec_l1Count.mono_l k
  exact ih0 a0 a1 a2 a3 a4
set_option maxHeartbeats 8000000 in
set_option maxRecDepth 100000 in
theorem spec_l1Count.calls (k : Nat) : ∀ (a0_0 : Int) (a0_1 : ByteArray) (a0_2 : Int) (A0_3 : Option Addr) (c0_3 : Nat) (l0_3 : List Int) (A0_4 : Option Addr) (c0_4 : Nat) (l0_4 : List (S31)) (r : Int) (w : World) (hr0_3 : Kd.C (Kd.int .i64) w A0_3 l0_3.length l0_3) (hc0_3 : l0_3.length ≤ c0_3) (hr0_4 : Kd.C k31 w A0_4 l0_4.length l0_4) (hc0_4 : l0_4.length ≤ c0_4) (h : spec_l1Count.f k a0_0 a0_1 a0_2 l0_3 l0_4 = some r),
    Calls Try.prog 153 #[.agg #[.int .i64 a0_0, .string a0_1, .int .i64 a0_2, .slice A0_3 l0_3.length c0_3, .slice A0_4 l0_4.length c0_4]] w fun e w' => e = .returned (.int .i64 r) ∧ Below w.heap.size w w' := by
  induction k using Nat.strongRecOn with
  | _ k ih =>
  intro a0_0 a0_1 a0_2 A0_3 c0_3 l0_3 A0_4 c0_4 l0_4 r w hr0_3 hc0_3 hr0_4 hc0_4 h
  cases k with
  | zero => exact absurd h (by simp [spec_l1Count.f])
  | succ k =>
  simp only [spec_l1Count.f] at h
  have hu31 := Try.underlying31
  have HR0_3 := Aside0.mk hr0_3
  have HC0_3 := Aside0.mk hc0_3
  clear hr0_3 hc0_3
  have HR0_4 := Aside0.mk hr0_4
  have HC0_4 := Aside0.mk hc0_4
  clear hr0_4 hc0_4
  have HB := Aside0.mk (Below.refl w.heap.size w)
  have H : (spec_l1Count.l0 k 1 0 a0_0 a0_1 a0_2 l0_3 l0_4) = some r := h
  clear h
  have H' := Aside0.mk H
  clear H
  go_enter Try.func153, Try.ntmps153
  go_wp2_with (first | ((with_reducible refine gate_dst (N := 1) rfl ?_); refine box_event ?hg (N := 1) ?hd (cs := #[.int .i64 a0_0, .string a0_1, .int .i64 a0_2, .slice A0_3 l0_3.length c0_3, .slice A0_4 l0_4.length c0_4]) (t := 31) ?hr ?_; (case hd => rfl); (case hg => rfl); (case hr => first | (go_simp; done) | (go_simp; rfl)); intro gb161 hg w2 hbox hb; have n0_ := Aside0.mk (below_step (by repeat (first | (with_reducible first | exact HB.out | apply below_alloc | apply pw_below_drewN | apply below_drew1) | exact HB.out)) hb); have n1_ := Aside0.mk (hbox); have n2_ := Aside0.mk ((by rw [hg]; exact (below_size (by repeat (first | (with_reducible first | exact HB.out | apply below_alloc | apply pw_below_drewN | apply below_drew1) | exact HB.out))) : w.heap.size ≤ gb161)); have n3_ := Aside0.mk ((by rw [hg]; exact (below_size (by repeat (first | (with_reducible first | exact HB.out | apply below_alloc | apply pw_below_drewN | apply below_drew1) | exact HB.out))) : w.heap.size ≤ gb161)); clear HB; have HB := n0_; have BK161 := n1_; have GW161 := n2_; have GE161 := n3_; clear n0_ n1_ n2_ n3_; clear hb hbox hg))
  go_loopg [3, 4] k (fun kq v3 v4 w' => ∃ (x3_1 : Int) (x4_1 : Int), v3 = .int .i64 x3_1 ∧ v4 = .int .i64 x4_1 ∧ Aside0 (spec_l1Count.l0 kq x3_1 x4_1 a0_0 a0_1 a0_2 l0_3 l0_4 = some r) ∧ Aside0 (kq ≤ k) ∧ Aside0 (w'.heap[gb161]? = some (.cells #[.int .i64 a0_0, .string a0_1, .int .i64 a0_2, (.slice A0_3 l0_3.length c0_3), (.slice A0_4 l0_4.length c0_4)] 31 (0, 0))) ∧ Aside0 (Below w.heap.size w w'))
  case atStart => exact ⟨(1), (0), (by first | rfl | (simp; done) | (simp [*]; done)), (by first | rfl | (simp; done) | (simp [*]; done)), H', ⟨Nat.le_refl _⟩, ⟨by (with_reducible repeat (first | refine blk_drewN ?_ _ | refine blk_drew ?_ | refine blk_alloc ?_ _)); exact BK161.out⟩, ⟨by repeat (first | (with_reducible first | exact HB.out | apply below_alloc | apply pw_below_drewN | apply below_drew1 | refine below_set ?_ GE161.out) | exact HB.out)⟩⟩
  case round =>
    clear H'
    try clear c1
    try clear p2
    obtain ⟨x3_1, x4_1, rfl, rfl, HA, HK1, BK161, HB⟩ := hrel
    cases gk with
    | zero => exact absurd HA.out (by simp [spec_l1Count.l0])
    | succ k1 =>
      have H := HA.out
      clear HA
      simp only [spec_l1Count.l0] at H
      by_cases c3 : x4_1 < (l0_4.length : Int)
      · rw [if_pos c3] at H
        have c3b0 : decide (x4_1 < (l0_4.length : Int)) = true := decide_eq_true c3
        clear c3
        by_cases c4 : 0 ≤ x4_1
        · rw [if_pos c4] at H
          have c4b0 : decide (0 ≤ x4_1) = true := decide_eq_true c4
          clear c4
          replace H := Option.bind_eq_some_iff.mp H
          obtain ⟨t163, A50, H⟩ := H
          replace H : (spec_l1Count.l0 k1 (wrap64 (x3_1 + t163)) (wrap64 (x4_1 + 1)) a0_0 a0_1 a0_2 l0_3 l0_4) = some r := H
          have A5 := Aside0.mk A50
          clear A50
          have H' := Aside0.mk H
          clear H
          have hcz6_0 : wr.cell? ⟨gb161, 0, none⟩ = some (.int .i64 a0_0) := (blk_cell BK161.out 0).trans rfl
          have hcz6_1 : wr.cell? ⟨gb161, 1, none⟩ = some (.string a0_1) := (blk_cell BK161.out 1).trans rfl
          have hcz6_2 : wr.cell? ⟨gb161, 2, none⟩ = some (.int .i64 a0_2) := (blk_cell BK161.out 2).trans rfl
          have hcz6_3 : wr.cell? ⟨gb161, 3, none⟩ = some (.slice A0_3 l0_3.length c0_3) := (blk_cell BK161.out 3).trans rfl
          have hcz6_4 : wr.cell? ⟨gb161, 4, none⟩ = some (.slice A0_4 l0_4.length c0_4) := (blk_cell BK161.out 4).trans rfl
          have hfz6_0 := blk_frozen BK161.out 0
          have hfz6_1 := blk_frozen BK161.out 1
          have hfz6_2 := blk_frozen BK161.out 2
          have hfz6_3 := blk_frozen BK161.out 3
          have hfz6_4 := blk_frozen BK161.out 4
          have p162 : 0 ≤ (x4_1 : Int) := of_decide_eq_true (by first | (with_reducible assumption) | assumption)
          have q162 : x4_1 < (l0_4.length : Int) := of_decide_eq_true (by first | (with_reducible assumption) | assumption)
          obtain ⟨ad162, A162_3, c162_3, A162_4, c162_4, e162, hx162_0, hx162_1, hx162_2, hx162_3, hx162_4, hl162_3, hi162_3, hl162_4, hi162_4⟩ := at_T31 HR0_4.out x4_1 p162 q162
          cases e162
          replace hx162_0 := (HB.out.cell (World.block_lt_of_cell? w _ hx162_0)).trans hx162_0
          replace hx162_1 := (HB.out.cell (World.block_lt_of_cell? w _ hx162_1)).trans hx162_1
          replace hx162_2 := (HB.out.cell (World.block_lt_of_cell? w _ hx162_2)).trans hx162_2
          replace hx162_3 := (HB.out.cell (World.block_lt_of_cell? w _ hx162_3)).trans hx162_3
          replace hx162_4 := (HB.out.cell (World.block_lt_of_cell? w _ hx162_4)).trans hx162_4
          have HR162_3 := Aside0.mk hi162_3
          have HC162_3 := Aside0.mk hl162_3
          clear hi162_3 hl162_3
          have HR162_4 := Aside0.mk hi162_4
          have HC162_4 := Aside0.mk hl162_4
          clear hi162_4 hl162_4
          replace p162 := eq_true p162
          replace q162 := eq_true q162
          go_wp2_with (first | ((with_reducible refine gate_callee (f := 153) rfl ?_); refine goesL_ (some 18) rfl rfl Try.func153 (by kernel_rfl) rfl #[.agg #[.int .i64 ((rd_T31 l0_4 x4_1).f0), .string ((rd_T31 l0_4 x4_1).f1), .int .i64 ((rd_T31 l0_4 x4_1).f2), .slice A162_3 ((rd_T31 l0_4 x4_1).f3).length c162_3, .slice A162_4 ((rd_T31 l0_4 x4_1).f4).length c162_4]] rfl (by (try simp only [List.map_toArray, List.map_cons, List.map_nil]); first | done | rfl | (simp only [List.length_drop, List.length_take]; rfl)) ?_; (with_reducible refine (ih k1 (by have := HK1.out; omega) ((rd_T31 l0_4 x4_1).f0) ((rd_T31 l0_4 x4_1).f1) ((rd_T31 l0_4 x4_1).f2) _ _ ((rd_T31 l0_4 x4_1).f3) _ _ ((rd_T31 l0_4 x4_1).f4) t163 _ ?side1 ?side2 ?side3 ?side4 A5.out).mono ?_); (case side1 => repeat (first | exact (Kd.C_below HR162_3.out HB.out) | (with_reducible refine Kd.C_alloc ?_ _) | (with_reducible refine Kd.C_drewN ?_ _) | (with_reducible refine Kd.C_drew ?_))); (case side2 => exact HC162_3.out); (case side3 => repeat (first | exact (Kd.C_below HR162_4.out HB.out) | (with_reducible refine Kd.C_alloc ?_ _) | (with_reducible refine Kd.C_drewN ?_ _) | (with_reducible refine Kd.C_drew ?_))); (case side4 => exact HC162_4.out); rintro e w7 ⟨rfl, hb⟩; refine ⟨_, rfl, ?_⟩; have n0_ := Aside0.mk (blk_below (g := gb161) (o := .cells #[.int .i64 a0_0, .string a0_1, .int .i64 a0_2, .slice A0_3 l0_3.length c0_3, .slice (some ad162) l0_4.length c0_4] 31 (0, 0)) (by (with_reducible repeat (first | refine blk_drewN ?_ _ | refine blk_drew ?_ | refine blk_alloc ?_ _)); exact BK161.out) hb); have n1_ := Aside0.mk (below_step (by repeat (first | (with_reducible first | exact HB.out | apply below_alloc | apply pw_below_drewN | apply below_drew1 | refine below_set ?_ GE161.out) | exact HB.out)) hb); clear BK161; clear HB; have BK161 := n0_; have HB := n1_; clear n0_ n1_; (try clear hb); (try clear hb2); (try clear hk); (try clear hi)))
          go_roundg k1
          case measure => have := HK1.out; omega
          case rel => exact ⟨(wrap64 (x3_1 + t163)), (wrap64 (x4_1 + 1)), (by first | rfl | (simp; done) | (simp [*]; done)), (by first | rfl | (simp; done) | (simp [*]; done)), H', ⟨by have := HK1.out; omega⟩, ⟨by (with_reducible repeat (first | refine blk_drewN ?_ _ | refine blk_drew ?_ | refine blk_alloc ?_ _)); exact BK161.out⟩, ⟨by repeat (first | (with_reducible first | exact HB.out | apply below_alloc | apply pw_below_drewN | apply below_drew1 | refine below_set ?_ GE161.out) | exact HB.out)⟩⟩
        · rw [if_neg c4] at H
          exact absurd H (by simp)
      · rw [if_neg c3] at H
        have c3b0 : decide (x4_1 < (l0_4.length : Int)) = false := decide_eq_false c3
        clear c3
        obtain rfl := Option.some.inj H
        have hcz8_0 : wr.cell? ⟨gb161, 0, none⟩ = some (.int .i64 a0_0) := (blk_cell BK161.out 0).trans rfl
        have hcz8_1 : wr.cell? ⟨gb161, 1, none⟩ = some (.string a0_1) := (blk_cell BK161.out 1).trans rfl
        have hcz8_2 : wr.cell? ⟨gb161, 2, none⟩ = some (.int .i64 a0_2) := (blk_cell BK161.out 2).trans rfl
        have hcz8_3 : wr.cell? ⟨gb161, 3, none⟩ = some (.slice A0_3 l0_3.length c0_3) := (blk_cell BK161.out 3).trans rfl
        have hcz8_4 : wr.cell? ⟨gb161, 4, none⟩ = some (.slice A0_4 l0_4.length c0_4) := (blk_cell BK161.out 4).trans rfl
        have hfz8_0 := blk_frozen BK161.out 0
        have hfz8_1 := blk_frozen BK161.out 1
        have hfz8_2 := blk_frozen BK161.out 2
        have hfz8_3 := blk_frozen BK161.out 3
        have hfz8_4 := blk_frozen BK161.out 4
        go_wp2
        go_ret
        exact ⟨by first | rfl | (simp [errW_none, errW_some] <;> rfl) | (simp [*, errW_none, errW_some] <;> rfl), by repeat (first | (with_reducible first | exact HB.out | apply below_alloc | apply pw_below_drewN | apply below_drew1 | refine below_set ?_ GE161.out) | exact HB.out)⟩

/-! ### spec_l2Take: function 154 -/
def spec_l2Take.l0 : Nat → List Int → Int → List Int → Int → Option (List Int)
  | 0, _, _, _, _ => none
  | k + 1, x0, x1, x5, x6 => if x6 < (x0.length : Int) then (if 0 ≤ x6 then (if (rd x0 x6) = x1 then (spec_l2Take.l0 k x0 x1 x5 (wrap64 (x6 + 1))) else (if x5.length < 17592186044416 then (spec_l2Take.l0 k x0 x1 (x5 ++ [rd x0 x6]) (wrap64 (x6 + 1))) else (none))) else (none)) else (some x5)
def spec_l2Take.f (k : Nat) (l0 : List Int) (a1 : Int) : Option (List Int) := spec_l2Take.l0 k l0 a1 (([] : List Int)) 0
theorem spec_l2Take.mono_l : ∀ k, (∀ y0 y1 y2 y3, LeO (spec_l2Take.l0 k y0 y1 y2 y3) (spec_l2Take.l0 (k + 1) y0 y1 y2 y3))
  | 0 => fun _ _ _ _ r h => by simp [spec_l2Take.l0] at h
  | k + 1 => by
    have ih0 := spec_l2Take.mono_l k
    · intro y0 y1 y2 y3
      unfold spec_l2Take.l0
      repeat' first
      | (with_reducible exact ih0 _ _ _ _)
      | (with_reducible exact LeO.refl _)
      | (with_reducible exact LeO.none _)
      | (with_reducible refine LeO.ite ?_ ?_)
      | (with_reducible refine LeO.bind ?_ (fun _ => ?_))
      | exact ih0 _ _ _ _
      | exact LeO.none _
      | refine LeO.ite ?_ ?_
      | refine LeO.bind ?_ (fun _ => ?_)
theorem spec_l2Take.mono : ∀ a0 a1 k, LeO (spec_l2Take.f k a0 a1) (spec_l2Take.f (k + 1) a0 a1) := by
  intro a0 a1 k
  have ih0 := spec_l2Take.mono_l k
  unfold spec_l2Take.f
  repeat' first
      | (with_reducible exact ih0 _ _ _ _)
      | (with_reducible exact LeO.refl _)
      | (with_reducible exact LeO.none _)
      | (with_reducible refine LeO.ite ?_ ?_)
      | (with_reducible refine LeO.bind ?_ (fun _ => ?_))
      | exact ih0 _ _ _ _
      | exact LeO.none _
      | refine LeO.ite ?_ ?_
      | refine LeO.bind ?_ (fun _ => ?_)
set_option maxHeartbeats 8000000 in
set_option maxRecDepth 100000 in
theorem spec_l2Take.calls (k : Nat) (A0 : Option Addr) (c0 : Nat) (l0 : List Int) (a1 : Int) (r : List Int) (w : World) (hr0 : Kd.C (Kd.int .i64) w A0 l0.length l0) (hc0 : l0.length ≤ c0) (h : spec_l2Take.f k l0 a1 = some r) :
    Calls Try.prog 154 #[.slice A0 l0.length c0, .int .i64 a1] w fun e w' => ∃ v0_ : Value, e = .returned (v0_) ∧ Kd.R (Kd.int .i64) 3 w' w.heap.size (fun _ => True) v0_ r ∧ Below w.heap.size w w' := by
  have HR0 := Aside0.mk hr0
  have HC0 := Aside0.mk hc0
  clear hr0 hc0
  have HB := Aside0.mk (Below.refl w.heap.size w)
  have H : (spec_l2Take.l0 k l0 a1 (([] : List Int)) 0) = some r := h
  clear h
  obtain ⟨y164, hy164⟩ : ∃ y_ : List Int, y_ = (([] : List Int)) := ⟨_, rfl⟩
  replace H : (spec_l2Take.l0 k l0 a1 y164 0) = some r := by first | (rw [hy164]; with_reducible exact H) | (have H2_ := (Option.bind_some _ _).symm.trans H; rw [hy164]; with_reducible exact H2_) | (have H2_ := (Option.bind_some _ _).symm.trans H; with_reducible exact H2_) | with_reducible exact H | (rw [hy164]; exact H) | exact H
  have Ny164 := Aside0.mk hy164
  clear hy164
  have H' := Aside0.mk H
  clear H
  go_enter Try.func154, Try.ntmps154
  go_wp2_with (first | ((with_reducible refine gate_dst (N := 7) rfl ?_); refine Kd.R_lit (Kd.int .i64) _ 3 ?hg (N := 7) ?hd (xs := ([] : List Int)) (inner := []) (ok := fun _ => True) (okp := fun _ => True) ?hr ?hp (fun _ hk => hk) trivial (Below.refl _ _) (Nat.le_refl _) (by simp) ?_; (case hd => rfl); (case hg => rfl); (case hr => first | (go_simp; done) | (go_simp; rfl)); (case hp => exact (Reps.none _ _)); intro v165 w3 ho4 hb hg_ hnew_; clear hg_ hnew_; (first | rw [← Ny164.out] at ho4 | (simp only [Int.reduceToNat] at ho4; rw [← Ny164.out] at ho4)); have n0_ := Aside0.mk (Kd.R_lower ho4 (below_size (by repeat (first | (with_reducible first | exact HB.out | apply below_alloc | apply pw_below_drewN | apply below_drew1) | exact HB.out)))); have n1_ := Aside0.mk (below_step (by repeat (first | (with_reducible first | exact HB.out | apply below_alloc | apply pw_below_drewN | apply below_drew1) | exact HB.out)) hb); clear HB; have HO166 := n0_; have HB := n1_; clear n0_ n1_; clear hb ho4))
  go_loopg [5, 6] k (fun kq v5 v6 w' => ∃ (x5_1 : List Int) (x6_1 : Int), v6 = .int .i64 x6_1 ∧ Aside0 (spec_l2Take.l0 kq l0 a1 x5_1 x6_1 = some r) ∧ Aside0 (kq ≤ k) ∧ Aside0 (Kd.R (Kd.int .i64) 3 w' w.heap.size (fun _ => True) v5 x5_1) ∧ Aside0 (Below w.heap.size w w'))
  case atStart => exact ⟨(y164), (0), (by first | rfl | (simp; done) | (simp [*]; done)), H', ⟨Nat.le_refl _⟩, ⟨by (with_reducible repeat (first | apply Kd.R_alloc | apply Kd.R_drewN | apply Kd.R_drew)); exact HO166.out⟩, ⟨by repeat (first | (with_reducible first | exact HB.out | apply below_alloc | apply pw_below_drewN | apply below_drew1) | exact HB.out)⟩⟩
  case round =>
    clear H'
    try clear c1
    try clear p2
    obtain ⟨x5_1, x6_1, rfl, HA, HK1, HO_5, HB⟩ := hrel
    cases gk with
    | zero => exact absurd HA.out (by simp [spec_l2Take.l0])
    | succ k1 =>
      have H := HA.out
      clear HA
      simp only [spec_l2Take.l0] at H
      by_cases c5 : x6_1 < (l0.length : Int)
      · rw [if_pos c5] at H
        have c5b0 : decide (x6_1 < (l0.length : Int)) = true := decide_eq_true c5
        clear c5
        by_cases c6 : 0 ≤ x6_1
        · rw [if_pos c6] at H
          have c6b0 : decide (0 ≤ x6_1) = true := decide_eq_true c6
          clear c6
          by_cases c7 : (rd l0 x6_1) = a1
          · rw [if_pos c7] at H
            have c7b0 : ((rd l0 x6_1) == a1) = true := beq_iff_eq.mpr c7
            have c7b1 : ((rd l0 x6_1) != a1) = false := bne_eq_false_iff_eq.mpr c7
            clear c7
            have H' := Aside0.mk H
            clear H
            have p167 : 0 ≤ (x6_1 : Int) := of_decide_eq_true (by first | (with_reducible assumption) | assumption)
            have q167 : x6_1 < (l0.length : Int) := of_decide_eq_true (by first | (with_reducible assumption) | assumption)
            obtain ⟨ad167, e167, hx167_0⟩ := Kd.at_int HR0.out x6_1 p167 q167
            cases e167
            replace hx167_0 := (HB.out.cell (World.block_lt_of_cell? w _ hx167_0)).trans hx167_0
            replace p167 := eq_true p167
            replace q167 := eq_true q167
            go_wp2
            go_roundg k1
            case measure => have := HK1.out; omega
            case rel => exact ⟨(x5_1), (wrap64 (x6_1 + 1)), (by first | rfl | (simp; done) | (simp [*]; done)), H', ⟨by have := HK1.out; omega⟩, ⟨by (with_reducible repeat (first | apply Kd.R_alloc | apply Kd.R_drewN | apply Kd.R_drew)); exact HO_5.out⟩, ⟨by repeat (first | (with_reducible first | exact HB.out | apply below_alloc | apply pw_below_drewN | apply below_drew1) | exact HB.out)⟩⟩
          · rw [if_neg c7] at H
            have c7b0 : ((rd l0 x6_1) == a1) = false := beq_eq_false_iff_ne.mpr c7
            have c7b1 : ((rd l0 x6_1) != a1) = true := bne_iff_ne.mpr c7
            by_cases c8 : x5_1.length < 17592186044416
            · rw [if_pos c8] at H
              have LMc8 := Aside0.mk c8
              clear c8
              obtain ⟨y169, hy169⟩ : ∃ y_ : List Int, y_ = (x5_1 ++ [rd l0 x6_1]) := ⟨_, rfl⟩
              replace H : (spec_l2Take.l0 k1 l0 a1 y169 (wrap64 (x6_1 + 1))) = some r := by first | (rw [hy169]; with_reducible exact H) | (have H2_ := (Option.bind_some _ _).symm.trans H; rw [hy169]; with_reducible exact H2_) | (have H2_ := (Option.bind_some _ _).symm.trans H; with_reducible exact H2_) | with_reducible exact H | (rw [hy169]; exact H) | exact H
              have Ny169 := Aside0.mk hy169
              clear hy169
              have H' := Aside0.mk H
              clear H
              have p167 : 0 ≤ (x6_1 : Int) := of_decide_eq_true (by first | (with_reducible assumption) | assumption)
              have q167 : x6_1 < (l0.length : Int) := of_decide_eq_true (by first | (with_reducible assumption) | assumption)
              obtain ⟨ad167, e167, hx167_0⟩ := Kd.at_int HR0.out x6_1 p167 q167
              cases e167
              replace hx167_0 := (HB.out.cell (World.block_lt_of_cell? w _ hx167_0)).trans hx167_0
              replace p167 := eq_true p167
              replace q167 := eq_true q167
              have p168 : 0 ≤ (x6_1 : Int) := of_decide_eq_true (by first | (with_reducible assumption) | assumption)
              have q168 : x6_1 < (l0.length : Int) := of_decide_eq_true (by first | (with_reducible assumption) | assumption)
              obtain ⟨ad168, e168, hx168_0⟩ := Kd.at_int HR0.out x6_1 p168 q168
              obtain rfl : ad167 = ad168 := (by injection e168)
              replace hx168_0 := (HB.out.cell (World.block_lt_of_cell? w _ hx168_0)).trans hx168_0
              replace p168 := eq_true p168
              replace q168 := eq_true q168
              go_wp2_with (first | ((with_reducible refine gate_builtin (b := .append) (xs := #[.tmp 20, .tmp 25]) rfl ?_); at_builtin; refine Kd.R_append (Kd.int .i64) (w0 := w) w.heap.size rfl (.tmp 20) (.tmp 25) 23 3 (.int .i64 0) 8 rfl Try.underlying23 info3 rfl (by decide) (by omega) u5 x5_1 (rd l0 x6_1) [.int .i64 (rd l0 x6_1)] (fun _ => True) (fun _ => False) rfl rfl ?aP (fun _ hk => hk.elim) ?aF ?aO ?aB ?aS ?aL ?_; (case aP => exact rfl); (case aB => exact (by repeat (first | (with_reducible first | exact HB.out | apply below_alloc | apply pw_below_drewN | apply below_drew1) | exact HB.out))); (case aF => exact (fun _ _ => trivial)); (case aO => exact (by (with_reducible repeat (first | apply Kd.R_alloc | apply Kd.R_drewN | apply Kd.R_drew)); exact HO_5.out)); (case aS => exact (below_size (by repeat (first | (with_reducible first | exact HB.out | apply below_alloc | apply pw_below_drewN | apply below_drew1) | exact HB.out)))); (case aL => have := LMc8.out; omega); intro v170 w9 ho hb hg hat; rw [← Ny169.out] at ho; have n0_ := Aside0.mk (hb); have n1_ := Aside0.mk (ho); clear HB; clear HO_5; have HB := n0_; have HO171 := n1_; clear n0_ n1_; clear ho hb hg hat))
              go_roundg k1
              case measure => have := HK1.out; omega
              case rel => exact ⟨(y169), (wrap64 (x6_1 + 1)), (by first | rfl | (simp; done) | (simp [*]; done)), H', ⟨by have := HK1.out; omega⟩, ⟨by (with_reducible repeat (first | apply Kd.R_alloc | apply Kd.R_drewN | apply Kd.R_drew)); exact HO171.out⟩, ⟨by repeat (first | (with_reducible first | exact HB.out | apply below_alloc | apply pw_below_drewN | apply below_drew1) | exact HB.out)⟩⟩
            · rw [if_neg c8] at H
              exact absurd H (by simp)
        · rw [if_neg c6] at H
          exact absurd H (by simp)
      · rw [if_neg c5] at H
        have c5b0 : decide (x6_1 < (l0.length : Int)) = false := decide_eq_false c5
        clear c5
        obtain rfl := Option.some.inj H
        go_wp2
        go_ret
        exact ⟨_, by first | rfl | (simp [errW_none, errW_some] <;> rfl) | (simp [*, errW_none, errW_some] <;> rfl), by (with_reducible repeat (first | apply Kd.R_alloc | apply Kd.R_drewN | apply Kd.R_drew)); exact HO_5.out, by repeat (first | (with_reducible first | exact HB.out | apply below_alloc | apply pw_below_drewN | apply below_drew1) | exact HB.out)⟩

/-! ### cmp_isNaN_int: function 172 -/
def cmp_isNaN_int.f (a0 : Int) : Option (Bool) := some (a0 != a0)
set_option maxHeartbeats 8000000 in
set_option maxRecDepth 100000 in
theorem cmp_isNaN_int.calls (a0 : Int) (r : Bool) (w : World) (h : cmp_isNaN_int.f a0 = some r) :
    Calls Try.prog 172 #[.int .i64 a0] w fun e w' => e = .returned (.bool r) ∧ Drawn0 w w' := by
  have H : (some (a0 != a0)) = some r := h
  clear h
  obtain rfl := Option.some.inj H
  go_enter Try.func172, Try.ntmps172
  go_wp2
  go_ret
  exact ⟨by first | rfl | (simp; done) | (simp [*]; done), by repeat (first | exact Drawn0.refl _ | apply Drawn0.step)⟩

/-! ### cmp_Less_int: function 157 -/
def cmp_Less_int.f (a0 : Int) (a1 : Int) : Option (Bool) := (cmp_isNaN_int.f a0).bind fun t197 => (if t197 = true then ((cmp_isNaN_int.f a1).bind fun t198 => (if t198 = true then (some (decide (a0 < a1))) else (some true))) else (some (decide (a0 < a1))))
set_option maxHeartbeats 8000000 in
set_option maxRecDepth 100000 in
theorem cmp_Less_int.calls (a0 : Int) (a1 : Int) (r : Bool) (w : World) (h : cmp_Less_int.f a0 a1 = some r) :
    Calls Try.prog 157 #[.int .i64 a0, .int .i64 a1] w fun e w' => e = .returned (.bool r) ∧ Drawn0 w w' := by
  have H : ((cmp_isNaN_int.f a0).bind fun t197 => (if t197 = true then ((cmp_isNaN_int.f a1).bind fun t198 => (if t198 = true then (some (decide (a0 < a1))) else (some true))) else (some (decide (a0 < a1))))) = some r := h
  clear h
  replace H := Option.bind_eq_some_iff.mp H
  obtain ⟨t197, A30, H⟩ := H
  replace H : (if t197 = true then ((cmp_isNaN_int.f a1).bind fun t198 => (if t198 = true then (some (decide (a0 < a1))) else (some true))) else (some (decide (a0 < a1)))) = some r := H
  have A3 := Aside0.mk A30
  clear A30
  by_cases c4 : t197 = true
  · subst c4
    have H1 : ((cmp_isNaN_int.f a1).bind fun t198 => (if t198 = true then (some (decide (a0 < a1))) else (some true))) = some r := by rw [if_pos rfl] at H; exact H
    clear H
    have H := H1
    clear H1
    replace H := Option.bind_eq_some_iff.mp H
    obtain ⟨t198, A50, H⟩ := H
    replace H : (if t198 = true then (some (decide (a0 < a1))) else (some true)) = some r := H
    have A5 := Aside0.mk A50
    clear A50
    by_cases c6 : t198 = true
    · subst c6
      have H1 : (some (decide (a0 < a1))) = some r := by rw [if_pos rfl] at H; exact H
      clear H
      have H := H1
      clear H1
      obtain rfl := Option.some.inj H
      go_enter Try.func157, Try.ntmps157
      go_wp2_with (first | ((with_reducible refine gate_callee (f := 172) rfl ?_); refine goesL_ (some 6) rfl rfl Try.func172 (by kernel_rfl) rfl #[.int .i64 a0] rfl (by (try simp only [List.map_toArray, List.map_cons, List.map_nil]); first | done | rfl | (simp only [List.length_drop, List.length_take]; rfl)) ?_; (with_reducible refine (cmp_isNaN_int.calls a0 true _ A3.out).mono ?_); rintro e w' ⟨rfl, ⟨nd, rfl⟩⟩; refine ⟨_, rfl, ?_⟩) | (go_at_call 172; (with_reducible refine (cmp_isNaN_int.calls a1 true _ A5.out).mono ?_); rintro e w' ⟨rfl, ⟨nd, rfl⟩⟩))
      go_ret
      exact ⟨by first | rfl | (simp; done) | (simp [*]; done), by repeat (first | exact Drawn0.refl _ | apply Drawn0.step)⟩
    · replace c6 := Bool.eq_false_iff.mpr c6
      subst c6
      have H1 : (some true) = some r := by rw [if_neg (show ¬ (false = true) by decide)] at H; exact H
      clear H
      have H := H1
      clear H1
      obtain rfl := Option.some.inj H
      go_enter Try.func157, Try.ntmps157
      go_wp2_with (first | ((with_reducible refine gate_callee (f := 172) rfl ?_); refine goesL_ (some 6) rfl rfl Try.func172 (by kernel_rfl) rfl #[.int .i64 a0] rfl (by (try simp only [List.map_toArray, List.map_cons, List.map_nil]); first | done | rfl | (simp only [List.length_drop, List.length_take]; rfl)) ?_; (with_reducible refine (cmp_isNaN_int.calls a0 true _ A3.out).mono ?_); rintro e w' ⟨rfl, ⟨nd, rfl⟩⟩; refine ⟨_, rfl, ?_⟩) | (go_at_call 172; (with_reducible refine (cmp_isNaN_int.calls a1 false _ A5.out).mono ?_); rintro e w' ⟨rfl, ⟨nd, rfl⟩⟩))
      go_ret
      exact ⟨by first | rfl | (simp; done) | (simp [*]; done), by repeat (first | exact Drawn0.refl _ | apply Drawn0.step)⟩
  · replace c4 := Bool.eq_false_iff.mpr c4
    subst c4
    have H1 : (some (decide (a0 < a1))) = some r := by rw [if_neg (show ¬ (false = true) by decide)] at H; exact H
    clear H
    have H := H1
    clear H1
    obtain rfl := Option.some.inj H
    go_enter Try.func157, Try.ntmps157
    go_wp2_with (first | ((with_reducible refine gate_callee (f := 172) rfl ?_); refine goesL_ (some 6) rfl rfl Try.func172 (by kernel_rfl) rfl #[.int .i64 a0] rfl (by (try simp only [List.map_toArray, List.map_cons, List.map_nil]); first | done | rfl | (simp only [List.length_drop, List.length_take]; rfl)) ?_; (with_reducible refine (cmp_isNaN_int.calls a0 false _ A3.out).mono ?_); rintro e w' ⟨rfl, ⟨nd, rfl⟩⟩; refine ⟨_, rfl, ?_⟩))
    go_ret
    exact ⟨by first | rfl | (simp; done) | (simp [*]; done), by repeat (first | exact Drawn0.refl _ | apply Drawn0.step)⟩

end Go.Proofs.Yteonncnhhccgeaa.Q
end
section
namespace Go.Proofs.Yteonncnhhccgeaa.Q
open Go.RowKit Go.Proofs.YteonncnhhccgeaaW.PrintWords Go.Proofs.YteonncnhhccgeaaW.PrintLast Go.Proofs.YteonncnhhccgeaaW.PrintMore
attribute [local go_sem] max2_int min2_int max_two min_two max_three min_three max_four min_four   -- for this text's walks alone
set_option linter.unusedVariables false
set_option linter.unusedSimpArgs false

/-! ### spec_l2Put: function 155 -/
noncomputable def spec_l2Put.l0 : Nat → List Int → Int → List Int → Bool → Int → Option (List Int)
  | 0, _, _, _, _, _ => none
  | k + 1, x0, x1, x5, x6, x7 => if x7 < (x0.length : Int) then (if x6 = true then (if 0 ≤ x7 then (if x5.length < 17592186044416 then (spec_l2Put.l0 k x0 x1 (x5 ++ [rd x0 x7]) x6 (wrap64 (x7 + 1))) else (none)) else (none)) else (if 0 ≤ x7 then (if (rd x0 x7) > x1 then (if x5.length < 17592186044416 then ((some (x5 ++ [x1] : List Int)).bind fun y181 => (if y181.length < 17592186044416 then (spec_l2Put.l0 k x0 x1 (y181 ++ [rd x0 x7]) true (wrap64 (x7 + 1))) else (none))) else (none)) else (if x5.length < 17592186044416 then (spec_l2Put.l0 k x0 x1 (x5 ++ [rd x0 x7]) x6 (wrap64 (x7 + 1))) else (none))) else (none))) else (if x6 = true then (some x5) else (if x5.length < 17592186044416 then (some (x5 ++ [x1])) else (none)))
noncomputable def spec_l2Put.f (k : Nat) (l0 : List Int) (a1 : Int) : Option (List Int) := (spec_l2Has.f l0 a1).bind fun t175 => (spec_l2Put.l0 k l0 a1 (([] : List Int)) t175 0)
theorem spec_l2Put.mono_l : ∀ k, (∀ y0 y1 y2 y3 y4, LeO (spec_l2Put.l0 k y0 y1 y2 y3 y4) (spec_l2Put.l0 (k + 1) y0 y1 y2 y3 y4))
  | 0 => fun _ _ _ _ _ r h => by simp [spec_l2Put.l0] at h
  | k + 1 => by
    have ih0 := spec_l2Put.mono_l k
    · intro y0 y1 y2 y3 y4
      unfold spec_l2Put.l0
      repeat' first
      | (with_reducible exact ih0 _ _ _ _ _)
      | (with_reducible exact LeO.refl _)
      | (with_reducible exact LeO.none _)
      | (with_reducible refine LeO.ite ?_ ?_)
      | (with_reducible refine LeO.bind ?_ (fun _ => ?_))
      | exact ih0 _ _ _ _ _
      | exact LeO.none _
      | refine LeO.ite ?_ ?_
      | refine LeO.bind ?_ (fun _ => ?_)
theorem spec_l2Put.mono : ∀ a0 a1 k, LeO (spec_l2Put.f k a0 a1) (spec_l2Put.f (k + 1) a0 a1) := by
  intro a0 a1 k
  have ih0 := spec_l2Put.mono_l k
  unfold spec_l2Put.f
  repeat' first
      | (with_reducible exact ih0 _ _ _ _ _)
      | (with_reducible exact LeO.refl _)
      | (with_reducible exact LeO.none _)
      | (with_reducible refine LeO.ite ?_ ?_)
      | (with_reducible refine LeO.bind ?_ (fun _ => ?_))
      | exact ih0 _ _ _ _ _
      | exact LeO.none _
      | refine LeO.ite ?_ ?_
      | refine LeO.bind ?_ (fun _ => ?_)
set_option maxHeartbeats 8000000 in
set_option maxRecDepth 100000 in
theorem spec_l2Put.calls (k : Nat) (A0 : Option Addr) (c0 : Nat) (l0 : List Int) (a1 : Int) (r : List Int) (w : World) (hr0 : Kd.C (Kd.int .i64) w A0 l0.length l0) (hc0 : l0.length ≤ c0) (h : spec_l2Put.f k l0 a1 = some r) :
    Calls Try.prog 155 #[.slice A0 l0.length c0, .int .i64 a1] w fun e w' => ∃ v0_ : Value, e = .returned (v0_) ∧ Kd.R (Kd.int .i64) 3 w' w.heap.size (fun _ => True) v0_ r ∧ Below w.heap.size w w' := by
  have HR0 := Aside0.mk hr0
  have HC0 := Aside0.mk hc0
  clear hr0 hc0
  have HB := Aside0.mk (Below.refl w.heap.size w)
  have H : ((spec_l2Has.f l0 a1).bind fun t175 => (spec_l2Put.l0 k l0 a1 (([] : List Int)) t175 0)) = some r := h
  clear h
  obtain ⟨y172, hy172⟩ : ∃ y_ : List Int, y_ = (([] : List Int)) := ⟨_, rfl⟩
  replace H : ((spec_l2Has.f l0 a1).bind fun t175 => (spec_l2Put.l0 k l0 a1 y172 t175 0)) = some r := by first | (rw [hy172]; with_reducible exact H) | (have H2_ := (Option.bind_some _ _).symm.trans H; rw [hy172]; with_reducible exact H2_) | (have H2_ := (Option.bind_some _ _).symm.trans H; with_reducible exact H2_) | with_reducible exact H | (rw [hy172]; exact H) | exact H
  have Ny172 := Aside0.mk hy172
  clear hy172
  replace H := Option.bind_eq_some_iff.mp H
  obtain ⟨t175, A30, H⟩ := H
  replace H : (spec_l2Put.l0 k l0 a1 y172 t175 0) = some r := H
  have A3 := Aside0.mk A30
  clear A30
  have H' := Aside0.mk H
  clear H
  go_enter Try.func155, Try.ntmps155
  go_wp2_with (first | ((with_reducible refine gate_dst (N := 8) rfl ?_); refine Kd.R_lit (Kd.int .i64) _ 3 ?hg (N := 8) ?hd (xs := ([] : List Int)) (inner := []) (ok := fun _ => True) (okp := fun _ => True) ?hr ?hp (fun _ hk => hk) trivial (Below.refl _ _) (Nat.le_refl _) (by simp) ?_; (case hd => rfl); (case hg => rfl); (case hr => first | (go_simp; done) | (go_simp; rfl)); (case hp => exact (Reps.none _ _)); intro v173 w4 ho5 hb hg_ hnew_; clear hg_ hnew_; (first | rw [← Ny172.out] at ho5 | (simp only [Int.reduceToNat] at ho5; rw [← Ny172.out] at ho5)); have n0_ := Aside0.mk (Kd.R_lower ho5 (below_size (by repeat (first | (with_reducible first | exact HB.out | apply below_alloc | apply pw_below_drewN | apply below_drew1) | exact HB.out)))); have n1_ := Aside0.mk (below_step (by repeat (first | (with_reducible first | exact HB.out | apply below_alloc | apply pw_below_drewN | apply below_drew1) | exact HB.out)) hb); clear HB; have HO174 := n0_; have HB := n1_; clear n0_ n1_; clear hb ho5) | ((with_reducible refine gate_callee (f := 83) rfl ?_); refine goesL_ (some 11) rfl rfl Try.func83 (by kernel_rfl) rfl #[.slice A0 l0.length c0, .int .i64 a1] rfl (by (try simp only [List.map_toArray, List.map_cons, List.map_nil]); first | done | rfl | (simp only [List.length_drop, List.length_take]; rfl)) ?_; (with_reducible refine (spec_l2Has.calls _ _ l0 a1 t175 _ ?side1 ?side2 A3.out).mono ?_); (case side1 => repeat (first | exact (Kd.C_below HR0.out HB.out) | (with_reducible refine Kd.C_alloc ?_ _) | (with_reducible refine Kd.C_drewN ?_ _) | (with_reducible refine Kd.C_drew ?_))); (case side2 => exact HC0.out); rintro e w6 ⟨rfl, hb⟩; refine ⟨_, rfl, ?_⟩; have n0_ := Aside0.mk (Kd.R_below (by (with_reducible repeat (first | apply Kd.R_alloc | apply Kd.R_drewN | apply Kd.R_drew)); exact HO174.out) hb); have n1_ := Aside0.mk (below_step (by repeat (first | (with_reducible first | exact HB.out | apply below_alloc | apply pw_below_drewN | apply below_drew1) | exact HB.out)) hb); clear HO174; clear HB; have HO174 := n0_; have HB := n1_; clear n0_ n1_; (try clear hb); (try clear hb2); (try clear hk); (try clear hi)))
  go_loopg [5, 6, 7] k (fun kq v5 v6 v7 w' => ∃ (x5_1 : List Int) (x6_1 : Bool) (x7_1 : Int), v6 = .bool x6_1 ∧ v7 = .int .i64 x7_1 ∧ Aside0 (spec_l2Put.l0 kq l0 a1 x5_1 x6_1 x7_1 = some r) ∧ Aside0 (kq ≤ k) ∧ Aside0 (Kd.R (Kd.int .i64) 3 w' w.heap.size (fun _ => True) v5 x5_1) ∧ Aside0 (Below w.heap.size w w'))
  case atStart => exact ⟨(y172), (t175), (0), (by first | rfl | (simp; done) | (simp [*]; done)), (by first | rfl | (simp; done) | (simp [*]; done)), H', ⟨Nat.le_refl _⟩, ⟨by (with_reducible repeat (first | apply Kd.R_alloc | apply Kd.R_drewN | apply Kd.R_drew)); exact HO174.out⟩, ⟨by repeat (first | (with_reducible first | exact HB.out | apply below_alloc | apply pw_below_drewN | apply below_drew1) | exact HB.out)⟩⟩
  case round =>
    clear H'
    try clear c1
    try clear p2
    obtain ⟨x5_1, x6_1, x7_1, rfl, rfl, HA, HK1, HO_5, HB⟩ := hrel
    cases gk with
    | zero => exact absurd HA.out (by simp [spec_l2Put.l0])
    | succ k1 =>
      have H := HA.out
      clear HA
      simp only [spec_l2Put.l0] at H
      by_cases c7 : x7_1 < (l0.length : Int)
      · rw [if_pos c7] at H
        have c7b0 : decide (x7_1 < (l0.length : Int)) = true := decide_eq_true c7
        clear c7
        by_cases c8 : x6_1 = true
        · subst c8
          have H1 : (if 0 ≤ x7_1 then (if x5_1.length < 17592186044416 then (spec_l2Put.l0 k1 l0 a1 (x5_1 ++ [rd l0 x7_1]) true (wrap64 (x7_1 + 1))) else (none)) else (none)) = some r := by rw [if_pos rfl] at H; exact H
          clear H
          have H := H1
          clear H1
          by_cases c9 : 0 ≤ x7_1
          · rw [if_pos c9] at H
            have c9b0 : decide (0 ≤ x7_1) = true := decide_eq_true c9
            clear c9
            by_cases c10 : x5_1.length < 17592186044416
            · rw [if_pos c10] at H
              have LMc10 := Aside0.mk c10
              clear c10
              obtain ⟨y177, hy177⟩ : ∃ y_ : List Int, y_ = (x5_1 ++ [rd l0 x7_1]) := ⟨_, rfl⟩
              replace H : (spec_l2Put.l0 k1 l0 a1 y177 true (wrap64 (x7_1 + 1))) = some r := by first | (rw [hy177]; with_reducible exact H) | (have H2_ := (Option.bind_some _ _).symm.trans H; rw [hy177]; with_reducible exact H2_) | (have H2_ := (Option.bind_some _ _).symm.trans H; with_reducible exact H2_) | with_reducible exact H | (rw [hy177]; exact H) | exact H
              have Ny177 := Aside0.mk hy177
              clear hy177
              have H' := Aside0.mk H
              clear H
              have p176 : 0 ≤ (x7_1 : Int) := of_decide_eq_true (by first | (with_reducible assumption) | assumption)
              have q176 : x7_1 < (l0.length : Int) := of_decide_eq_true (by first | (with_reducible assumption) | assumption)
              obtain ⟨ad176, e176, hx176_0⟩ := Kd.at_int HR0.out x7_1 p176 q176
              cases e176
              replace hx176_0 := (HB.out.cell (World.block_lt_of_cell? w _ hx176_0)).trans hx176_0
              replace p176 := eq_true p176
              replace q176 := eq_true q176
              go_wp2_with (first | ((with_reducible refine gate_builtin (b := .append) (xs := #[.tmp 32, .tmp 37]) rfl ?_); at_builtin; refine Kd.R_append (Kd.int .i64) (w0 := w) w.heap.size rfl (.tmp 32) (.tmp 37) 23 3 (.int .i64 0) 8 rfl Try.underlying23 info3 rfl (by decide) (by omega) u5 x5_1 (rd l0 x7_1) [.int .i64 (rd l0 x7_1)] (fun _ => True) (fun _ => False) rfl rfl ?aP (fun _ hk => hk.elim) ?aF ?aO ?aB ?aS ?aL ?_; (case aP => exact rfl); (case aB => exact (by repeat (first | (with_reducible first | exact HB.out | apply below_alloc | apply pw_below_drewN | apply below_drew1) | exact HB.out))); (case aF => exact (fun _ _ => trivial)); (case aO => exact (by (with_reducible repeat (first | apply Kd.R_alloc | apply Kd.R_drewN | apply Kd.R_drew)); exact HO_5.out)); (case aS => exact (below_size (by repeat (first | (with_reducible first | exact HB.out | apply below_alloc | apply pw_below_drewN | apply below_drew1) | exact HB.out)))); (case aL => have := LMc10.out; omega); intro v178 w11 ho hb hg hat; rw [← Ny177.out] at ho; have n0_ := Aside0.mk (hb); have n1_ := Aside0.mk (ho); clear HB; clear HO_5; have HB := n0_; have HO179 := n1_; clear n0_ n1_; clear ho hb hg hat))
              go_roundg k1
              case measure => have := HK1.out; omega
              case rel => exact ⟨(y177), (true), (wrap64 (x7_1 + 1)), (by first | rfl | (simp; done) | (simp [*]; done)), (by first | rfl | (simp; done) | (simp [*]; done)), H', ⟨by have := HK1.out; omega⟩, ⟨by (with_reducible repeat (first | apply Kd.R_alloc | apply Kd.R_drewN | apply Kd.R_drew)); exact HO179.out⟩, ⟨by repeat (first | (with_reducible first | exact HB.out | apply below_alloc | apply pw_below_drewN | apply below_drew1) | exact HB.out)⟩⟩
            · rw [if_neg c10] at H
              exact absurd H (by simp)
          · rw [if_neg c9] at H
            exact absurd H (by simp)
        · replace c8 := Bool.eq_false_iff.mpr c8
          subst c8
          have H1 : (if 0 ≤ x7_1 then (if (rd l0 x7_1) > a1 then (if x5_1.length < 17592186044416 then ((some (x5_1 ++ [a1] : List Int)).bind fun y181 => (if y181.length < 17592186044416 then (spec_l2Put.l0 k1 l0 a1 (y181 ++ [rd l0 x7_1]) true (wrap64 (x7_1 + 1))) else (none))) else (none)) else (if x5_1.length < 17592186044416 then (spec_l2Put.l0 k1 l0 a1 (x5_1 ++ [rd l0 x7_1]) false (wrap64 (x7_1 + 1))) else (none))) else (none)) = some r := by rw [if_neg (show ¬ (false = true) by decide)] at H; exact H
          clear H
          have H := H1
          clear H1
          by_cases c12 : 0 ≤ x7_1
          · rw [if_pos c12] at H
            have c12b0 : decide (0 ≤ x7_1) = true := decide_eq_true c12
            clear c12
            by_cases c13 : (rd l0 x7_1) > a1
            · rw [if_pos c13] at H
              have c13b0 : decide (a1 < (rd l0 x7_1)) = true := decide_eq_true c13
              clear c13
              by_cases c14 : x5_1.length < 17592186044416
              · rw [if_pos c14] at H
                have LMc14 := Aside0.mk c14
                clear c14
                obtain ⟨y181, hy181⟩ : ∃ y_ : List Int, y_ = (x5_1 ++ [a1]) := ⟨_, rfl⟩
                replace H : (if y181.length < 17592186044416 then (spec_l2Put.l0 k1 l0 a1 (y181 ++ [rd l0 x7_1]) true (wrap64 (x7_1 + 1))) else (none)) = some r := by first | (rw [hy181]; with_reducible exact H) | (have H2_ := (Option.bind_some _ _).symm.trans H; rw [hy181]; with_reducible exact H2_) | (have H2_ := (Option.bind_some _ _).symm.trans H; with_reducible exact H2_) | with_reducible exact H | (rw [hy181]; exact H) | exact H
                have Ny181 := Aside0.mk hy181
                clear hy181
                by_cases c15 : y181.length < 17592186044416
                · rw [if_pos c15] at H
                  have LMc15 := Aside0.mk c15
                  clear c15
                  obtain ⟨y185, hy185⟩ : ∃ y_ : List Int, y_ = (y181 ++ [rd l0 x7_1]) := ⟨_, rfl⟩
                  replace H : (spec_l2Put.l0 k1 l0 a1 y185 true (wrap64 (x7_1 + 1))) = some r := by first | (rw [hy185]; with_reducible exact H) | (have H2_ := (Option.bind_some _ _).symm.trans H; rw [hy185]; with_reducible exact H2_) | (have H2_ := (Option.bind_some _ _).symm.trans H; with_reducible exact H2_) | with_reducible exact H | (rw [hy185]; exact H) | exact H
                  have Ny185 := Aside0.mk hy185
                  clear hy185
                  have H' := Aside0.mk H
                  clear H
                  have p180 : 0 ≤ (x7_1 : Int) := of_decide_eq_true (by first | (with_reducible assumption) | assumption)
                  have q180 : x7_1 < (l0.length : Int) := of_decide_eq_true (by first | (with_reducible assumption) | assumption)
                  obtain ⟨ad180, e180, hx180_0⟩ := Kd.at_int HR0.out x7_1 p180 q180
                  cases e180
                  replace hx180_0 := (HB.out.cell (World.block_lt_of_cell? w _ hx180_0)).trans hx180_0
                  replace p180 := eq_true p180
                  replace q180 := eq_true q180
                  go_wp2_with (first | ((with_reducible refine gate_builtin (b := .append) (xs := #[.tmp 28, .tmp 30]) rfl ?_); at_builtin; refine Kd.R_append (Kd.int .i64) (w0 := w) w.heap.size rfl (.tmp 28) (.tmp 30) 23 3 (.int .i64 0) 8 rfl Try.underlying23 info3 rfl (by decide) (by omega) u5 x5_1 a1 [.int .i64 a1] (fun _ => True) (fun _ => False) rfl rfl ?aP (fun _ hk => hk.elim) ?aF ?aO ?aB ?aS ?aL ?_; (case aP => exact rfl); (case aB => exact (by repeat (first | (with_reducible first | exact HB.out | apply below_alloc | apply pw_below_drewN | apply below_drew1) | exact HB.out))); (case aF => exact (fun _ _ => trivial)); (case aO => exact (by (with_reducible repeat (first | apply Kd.R_alloc | apply Kd.R_drewN | apply Kd.R_drew)); exact HO_5.out)); (case aS => exact (below_size (by repeat (first | (with_reducible first | exact HB.out | apply below_alloc | apply pw_below_drewN | apply below_drew1) | exact HB.out)))); (case aL => have := LMc14.out; omega); intro v182 w16 ho hb hg hat; rw [← Ny181.out] at ho; have n0_ := Aside0.mk (hb); have n1_ := Aside0.mk (ho); clear HB; clear HO_5; have HB := n0_; have HO183 := n1_; clear n0_ n1_; clear ho hb hg hat; have p184 : 0 ≤ (x7_1 : Int) := of_decide_eq_true (by first | (with_reducible assumption) | assumption); have q184 : x7_1 < (l0.length : Int) := of_decide_eq_true (by first | (with_reducible assumption) | assumption); obtain ⟨ad184, e184, hx184_0⟩ := Kd.at_int HR0.out x7_1 p184 q184; obtain rfl : ad180 = ad184 := (by injection e184); replace hx184_0 := (HB.out.cell (World.block_lt_of_cell? w _ hx184_0)).trans hx184_0; replace p184 := eq_true p184; replace q184 := eq_true q184) | ((with_reducible refine gate_builtin (b := .append) (xs := #[.tmp 32, .tmp 37]) rfl ?_); at_builtin; refine Kd.R_append (Kd.int .i64) (w0 := w) w.heap.size rfl (.tmp 32) (.tmp 37) 23 3 (.int .i64 0) 8 rfl Try.underlying23 info3 rfl (by decide) (by omega) v182 y181 (rd l0 x7_1) [.int .i64 (rd l0 x7_1)] (fun _ => True) (fun _ => False) rfl rfl ?aP (fun _ hk => hk.elim) ?aF ?aO ?aB ?aS ?aL ?_; (case aP => exact rfl); (case aB => exact (by repeat (first | (with_reducible first | exact HB.out | apply below_alloc | apply pw_below_drewN | apply below_drew1) | exact HB.out))); (case aF => exact (fun _ _ => trivial)); (case aO => exact (by (with_reducible repeat (first | apply Kd.R_alloc | apply Kd.R_drewN | apply Kd.R_drew)); exact HO183.out)); (case aS => exact (below_size (by repeat (first | (with_reducible first | exact HB.out | apply below_alloc | apply pw_below_drewN | apply below_drew1) | exact HB.out)))); (case aL => have := LMc15.out; omega); intro v186 w17 ho hb hg hat; rw [← Ny185.out] at ho; have n0_ := Aside0.mk (hb); have n1_ := Aside0.mk (ho); clear HB; clear HO183; have HB := n0_; have HO187 := n1_; clear n0_ n1_; clear ho hb hg hat))
                  go_roundg k1
                  case measure => have := HK1.out; omega
                  case rel => exact ⟨(y185), (true), (wrap64 (x7_1 + 1)), (by first | rfl | (simp; done) | (simp [*]; done)), (by first | rfl | (simp; done) | (simp [*]; done)), H', ⟨by have := HK1.out; omega⟩, ⟨by (with_reducible repeat (first | apply Kd.R_alloc | apply Kd.R_drewN | apply Kd.R_drew)); exact HO187.out⟩, ⟨by repeat (first | (with_reducible first | exact HB.out | apply below_alloc | apply pw_below_drewN | apply below_drew1) | exact HB.out)⟩⟩
                · rw [if_neg c15] at H
                  exact absurd H (by simp)
              · rw [if_neg c14] at H
                exact absurd H (by simp)
            · rw [if_neg c13] at H
              have c13b0 : decide (a1 < (rd l0 x7_1)) = false := decide_eq_false c13
              clear c13
              by_cases c18 : x5_1.length < 17592186044416
              · rw [if_pos c18] at H
                have LMc18 := Aside0.mk c18
                clear c18
                obtain ⟨y189, hy189⟩ : ∃ y_ : List Int, y_ = (x5_1 ++ [rd l0 x7_1]) := ⟨_, rfl⟩
                replace H : (spec_l2Put.l0 k1 l0 a1 y189 false (wrap64 (x7_1 + 1))) = some r := by first | (rw [hy189]; with_reducible exact H) | (have H2_ := (Option.bind_some _ _).symm.trans H; rw [hy189]; with_reducible exact H2_) | (have H2_ := (Option.bind_some _ _).symm.trans H; with_reducible exact H2_) | with_reducible exact H | (rw [hy189]; exact H) | exact H
                have Ny189 := Aside0.mk hy189
                clear hy189
                have H' := Aside0.mk H
                clear H
                have p180 : 0 ≤ (x7_1 : Int) := of_decide_eq_true (by first | (with_reducible assumption) | assumption)
                have q180 : x7_1 < (l0.length : Int) := of_decide_eq_true (by first | (with_reducible assumption) | assumption)
                obtain ⟨ad180, e180, hx180_0⟩ := Kd.at_int HR0.out x7_1 p180 q180
                cases e180
                replace hx180_0 := (HB.out.cell (World.block_lt_of_cell? w _ hx180_0)).trans hx180_0
                replace p180 := eq_true p180
                replace q180 := eq_true q180
                have p188 : 0 ≤ (x7_1 : Int) := of_decide_eq_true (by first | (with_reducible assumption) | assumption)
                have q188 : x7_1 < (l0.length : Int) := of_decide_eq_true (by first | (with_reducible assumption) | assumption)
                obtain ⟨ad188, e188, hx188_0⟩ := Kd.at_int HR0.out x7_1 p188 q188
                obtain rfl : ad180 = ad188 := (by injection e188)
                replace hx188_0 := (HB.out.cell (World.block_lt_of_cell? w _ hx188_0)).trans hx188_0
                replace p188 := eq_true p188
                replace q188 := eq_true q188
                go_wp2_with (first | ((with_reducible refine gate_builtin (b := .append) (xs := #[.tmp 32, .tmp 37]) rfl ?_); at_builtin; refine Kd.R_append (Kd.int .i64) (w0 := w) w.heap.size rfl (.tmp 32) (.tmp 37) 23 3 (.int .i64 0) 8 rfl Try.underlying23 info3 rfl (by decide) (by omega) u5 x5_1 (rd l0 x7_1) [.int .i64 (rd l0 x7_1)] (fun _ => True) (fun _ => False) rfl rfl ?aP (fun _ hk => hk.elim) ?aF ?aO ?aB ?aS ?aL ?_; (case aP => exact rfl); (case aB => exact (by repeat (first | (with_reducible first | exact HB.out | apply below_alloc | apply pw_below_drewN | apply below_drew1) | exact HB.out))); (case aF => exact (fun _ _ => trivial)); (case aO => exact (by (with_reducible repeat (first | apply Kd.R_alloc | apply Kd.R_drewN | apply Kd.R_drew)); exact HO_5.out)); (case aS => exact (below_size (by repeat (first | (with_reducible first | exact HB.out | apply below_alloc | apply pw_below_drewN | apply below_drew1) | exact HB.out)))); (case aL => have := LMc18.out; omega); intro v190 w19 ho hb hg hat; rw [← Ny189.out] at ho; have n0_ := Aside0.mk (hb); have n1_ := Aside0.mk (ho); clear HB; clear HO_5; have HB := n0_; have HO191 := n1_; clear n0_ n1_; clear ho hb hg hat))
                go_roundg k1
                case measure => have := HK1.out; omega
                case rel => exact ⟨(y189), (false), (wrap64 (x7_1 + 1)), (by first | rfl | (simp; done) | (simp [*]; done)), (by first | rfl | (simp; done) | (simp [*]; done)), H', ⟨by have := HK1.out; omega⟩, ⟨by (with_reducible repeat (first | apply Kd.R_alloc | apply Kd.R_drewN | apply Kd.R_drew)); exact HO191.out⟩, ⟨by repeat (first | (with_reducible first | exact HB.out | apply below_alloc | apply pw_below_drewN | apply below_drew1) | exact HB.out)⟩⟩
              · rw [if_neg c18] at H
                exact absurd H (by simp)
          · rw [if_neg c12] at H
            exact absurd H (by simp)
      · rw [if_neg c7] at H
        have c7b0 : decide (x7_1 < (l0.length : Int)) = false := decide_eq_false c7
        clear c7
        by_cases c20 : x6_1 = true
        · subst c20
          have H1 : (some x5_1) = some r := by rw [if_pos rfl] at H; exact H
          clear H
          have H := H1
          clear H1
          obtain rfl := Option.some.inj H
          go_wp2
          go_ret
          exact ⟨_, by first | rfl | (simp [errW_none, errW_some] <;> rfl) | (simp [*, errW_none, errW_some] <;> rfl), by (with_reducible repeat (first | apply Kd.R_alloc | apply Kd.R_drewN | apply Kd.R_drew)); exact HO_5.out, by repeat (first | (with_reducible first | exact HB.out | apply below_alloc | apply pw_below_drewN | apply below_drew1) | exact HB.out)⟩
        · replace c20 := Bool.eq_false_iff.mpr c20
          subst c20
          have H1 : (if x5_1.length < 17592186044416 then (some (x5_1 ++ [a1])) else (none)) = some r := by rw [if_neg (show ¬ (false = true) by decide)] at H; exact H
          clear H
          have H := H1
          clear H1
          by_cases c21 : x5_1.length < 17592186044416
          · rw [if_pos c21] at H
            have LMc21 := Aside0.mk c21
            clear c21
            obtain ⟨y192, hy192⟩ : ∃ y_ : List Int, y_ = (x5_1 ++ [a1]) := ⟨_, rfl⟩
            replace H : (some y192) = some r := by first | (rw [hy192]; with_reducible exact H) | (have H2_ := (Option.bind_some _ _).symm.trans H; rw [hy192]; with_reducible exact H2_) | (have H2_ := (Option.bind_some _ _).symm.trans H; with_reducible exact H2_) | with_reducible exact H | (rw [hy192]; exact H) | exact H
            have Ny192 := Aside0.mk hy192
            clear hy192
            obtain rfl := Option.some.inj H
            go_wp2_with (first | ((with_reducible refine gate_builtin (b := .append) (xs := #[.tmp 41, .tmp 43]) rfl ?_); at_builtin; refine Kd.R_append (Kd.int .i64) (w0 := w) w.heap.size rfl (.tmp 41) (.tmp 43) 23 3 (.int .i64 0) 8 rfl Try.underlying23 info3 rfl (by decide) (by omega) u5 x5_1 a1 [.int .i64 a1] (fun _ => True) (fun _ => False) rfl rfl ?aP (fun _ hk => hk.elim) ?aF ?aO ?aB ?aS ?aL ?_; (case aP => exact rfl); (case aB => exact (by repeat (first | (with_reducible first | exact HB.out | apply below_alloc | apply pw_below_drewN | apply below_drew1) | exact HB.out))); (case aF => exact (fun _ _ => trivial)); (case aO => exact (by (with_reducible repeat (first | apply Kd.R_alloc | apply Kd.R_drewN | apply Kd.R_drew)); exact HO_5.out)); (case aS => exact (below_size (by repeat (first | (with_reducible first | exact HB.out | apply below_alloc | apply pw_below_drewN | apply below_drew1) | exact HB.out)))); (case aL => have := LMc21.out; omega); intro v193 w22 ho hb hg hat; rw [← Ny192.out] at ho; have n0_ := Aside0.mk (hb); have n1_ := Aside0.mk (ho); clear HB; clear HO_5; have HB := n0_; have HO194 := n1_; clear n0_ n1_; clear ho hb hg hat))
            go_ret
            exact ⟨_, by first | rfl | (simp [errW_none, errW_some] <;> rfl) | (simp [*, errW_none, errW_some] <;> rfl), by (with_reducible repeat (first | apply Kd.R_alloc | apply Kd.R_drewN | apply Kd.R_drew)); exact HO194.out, by repeat (first | (with_reducible first | exact HB.out | apply below_alloc | apply pw_below_drewN | apply below_drew1) | exact HB.out)⟩
          · rw [if_neg c21] at H
            exact absurd H (by simp)

end Go.Proofs.Yteonncnhhccgeaa.Q
end
section
namespace Go.Proofs.Yteonncnhhccgeaa
open Go.RowKit Go.Proofs.YteonncnhhccgeaaW.PrintWords Go.Proofs.Yteonncnhhccgeaa.Q
set_option linter.unusedVariables false
set_option linter.unusedSimpArgs false
theorem rdI (l : List Int) (i : Nat) (h : i < l.length) : rd l (i : Int) = l[i] := by
  simp [rd, h]
theorem ev_l2Take (l : List Int) (x : Int) (hl : l.length ≤ 1000000) : Ev (fun k => spec_l2Take.f k l x) (takeO l x) := by
  simp only [spec_l2Take.f]
  obtain ⟨r, hp, hr⟩ := ev_loop (L := fun k (s : Int × List Int) => spec_l2Take.l0 k l x s.2 s.1) (fun i s => s = ((i : Int), takeO (l.take i) x)) l.length (· = takeO l x) (by
    rintro i s hi rfl
    have hle : (takeO (l.take i) x).length ≤ 1000000 := Nat.le_trans (len_takeO_le _ _) (by simp; omega)
    by_cases hx : l[i] = x
    · refine ⟨((i + 1 : Nat), takeO (l.take (i + 1)) x), rfl, fun r hr => ?_⟩
      refine Ev.step (fun k => by rw [spec_l2Take.l0]) (Ev.pos (by simpa using hi) (Ev.pos (by simp) (Ev.pos (by rw [rdI _ _ hi]; exact hx) ?_)))
      rw [wr1 _ (by omega)]
      rw [show takeO (l.take (i + 1)) x = takeO (l.take i) x from by rw [List.take_succ_eq_append_getElem hi, takeO, List.filter_append]; simp [hx]] at hr
      exact hr
    · refine ⟨((i + 1 : Nat), takeO (l.take (i + 1)) x), rfl, fun r hr => ?_⟩
      refine Ev.step (fun k => by rw [spec_l2Take.l0]) (Ev.pos (by simpa using hi) (Ev.pos (by simp) (Ev.neg (by rw [rdI _ _ hi]; exact hx) (Ev.pos (by dsimp only; omega) ?_))))
      rw [wr1 _ (by omega), rdI _ _ hi]
      rw [show takeO (l.take (i + 1)) x = takeO (l.take i) x ++ [l[i]] from by rw [List.take_succ_eq_append_getElem hi, takeO, List.filter_append]; congr 1; simp [hx]] at hr
      exact hr) (by
    rintro s rfl
    refine ⟨_, rfl, Ev.step (fun k => by rw [spec_l2Take.l0]) (Ev.neg (by simp) ?_)⟩
    rw [List.take_length]
    exact Ev.now _) (0, []) rfl
  subst hp
  exact hr
theorem ev_l2Put (l : List Int) (x : Int) (hs : Srt l) (hl : l.length ≤ 1000000) : Ev (fun k => spec_l2Put.f k l x) (putS l x) := by
  simp only [spec_l2Put.f]
  refine Ev.bind (g := fun _ => _) (Ev.some rfl) ?_
  by_cases hx : x ∈ l
  · rw [decide_eq_true hx, putS_same hx]
    obtain ⟨r, hp, hr⟩ := ev_loop (L := fun k (s : Int × List Int) => spec_l2Put.l0 k l x s.2 true s.1) (fun i s => s = ((i : Int), l.take i)) l.length (· = l) (by
      rintro i s hi rfl
      refine ⟨((i + 1 : Nat), l.take i ++ [l[i]]), by rw [takeS hi], fun r hr => ?_⟩
      refine Ev.step (fun k => by rw [spec_l2Put.l0]) (Ev.pos (by simpa using hi) (Ev.pos rfl (Ev.pos (by simp) (Ev.pos (by simp; omega) ?_))))
      rw [wr1 _ (by omega), rdI _ _ hi]
      exact hr) (by
      rintro s rfl
      refine ⟨_, rfl, Ev.step (fun k => by rw [spec_l2Put.l0]) (Ev.neg (by simp) (Ev.pos rfl ?_))⟩
      rw [List.take_length]
      exact Ev.now _) (0, []) rfl
    subst hp
    exact hr
  · rw [decide_eq_false hx]
    obtain ⟨c1, c2⟩ := srt_cut x hs
    obtain ⟨c, hc⟩ : ∃ c, c = l.countP (· < x) := ⟨_, rfl⟩
    have hcl : c ≤ l.length := by rw [hc]; exact List.countP_le_length
    have hput : putS l x = l.take c ++ x :: l.drop c := by unfold putS; rw [if_neg hx, hc]; rfl
    rw [← hc] at c1 c2
    have d1 : ∀ i (h : i < l.length), i < c → l[i] < x := fun i h hi => c1 _ (by rw [List.mem_take_iff_getElem]; exact ⟨i, by omega, rfl⟩)
    have d2 : ∀ i (h : i < l.length), c ≤ i → x < l[i] := fun i h hi => by
      have h1 := c2 l[i] (by rw [List.mem_drop_iff_getElem]; exact ⟨i - c, by omega, by congr 1; omega⟩)
      have : l[i] ≠ x := fun e => hx (e ▸ List.getElem_mem h)
      omega
    obtain ⟨r, hp, hr⟩ := ev_loop (L := fun k (s : Int × Bool × List Int) => spec_l2Put.l0 k l x s.2.2 s.2.1 s.1) (fun i s => s.1 = (i : Int) ∧ ((i ≤ c ∧ s.2.1 = false ∧ s.2.2 = l.take i) ∨ (c < i ∧ s.2.1 = true ∧ s.2.2 = l.take c ++ x :: (l.take i).drop c))) l.length (· = putS l x) (by
      rintro i ⟨s1, s2, s3⟩ hi ⟨rfl, h⟩
      rcases h with ⟨h1, h2, h3⟩ | ⟨h1, h2, h3⟩
      · have h2' : s2 = false := h2
        have h3' : s3 = l.take i := h3
        subst h2' h3'
        by_cases hic : i = c
        · subst hic
          refine ⟨((i + 1 : Nat), true, (l.take i ++ [x]) ++ [l[i]]), ⟨rfl, .inr ⟨by omega, rfl, ?_⟩⟩, fun r hr => ?_⟩
          · show _ = _
            rw [List.append_assoc]
            congr 1
            rw [List.take_succ_eq_append_getElem hi, List.drop_append]
            simp [Nat.min_eq_left (Nat.le_of_lt hi)]
          · refine Ev.step (fun k => by rw [spec_l2Put.l0]) ?_
            refine Ev.pos (by simpa using hi) (Ev.neg (by simp) (Ev.pos (by simp) (Ev.pos (by rw [rdI _ _ hi]; exact d2 i hi (Nat.le_refl _)) (Ev.pos (by simp; omega) (Ev.bind (g := fun _ => _) (Ev.some rfl) (Ev.pos (by simp; omega) ?_))))))
            rw [wr1 _ (by omega), rdI _ _ hi]
            exact hr
        · refine ⟨((i + 1 : Nat), false, l.take i ++ [l[i]]), ⟨rfl, .inl ⟨by omega, rfl, by rw [takeS hi]⟩⟩, fun r hr => ?_⟩
          refine Ev.step (fun k => by rw [spec_l2Put.l0]) (Ev.pos (by simpa using hi) (Ev.neg (by simp) (Ev.pos (by simp) (Ev.neg (by rw [rdI _ _ hi]; have := d1 i hi (by omega); omega) (Ev.pos (by simp; omega) ?_)))))
          rw [wr1 _ (by omega), rdI _ _ hi]
          exact hr
      · have h2' : s2 = true := h2
        have h3' : s3 = l.take c ++ x :: (l.take i).drop c := h3
        subst h2' h3'
        refine ⟨((i + 1 : Nat), true, (l.take c ++ x :: (l.take i).drop c) ++ [l[i]]), ⟨rfl, .inr ⟨by omega, rfl, ?_⟩⟩, fun r hr => ?_⟩
        · show _ = _
          rw [List.take_succ_eq_append_getElem hi, List.drop_append_of_le_length (by simp; omega)]
          simp
        · refine Ev.step (fun k => by rw [spec_l2Put.l0]) (Ev.pos (by simpa using hi) (Ev.pos rfl (Ev.pos (by simp) (Ev.pos (by simp; omega) ?_))))
          rw [wr1 _ (by omega), rdI _ _ hi]
          exact hr) (by
      rintro ⟨s1, s2, s3⟩ ⟨rfl, h⟩
      refine ⟨_, rfl, ?_⟩
      rcases h with ⟨h1, h2, h3⟩ | ⟨h1, h2, h3⟩
      · have h2' : s2 = false := h2
        have h3' : s3 = l.take l.length := h3
        subst h2' h3'
        have : c = l.length := by omega
        refine Ev.step (fun k => by rw [spec_l2Put.l0]) (Ev.neg (by simp) (Ev.neg (by simp) (Ev.pos (by simp; omega) ?_)))
        rw [hput, this, List.take_length, List.drop_length]
        exact Ev.now _
      · have h2' : s2 = true := h2
        have h3' : s3 = l.take c ++ x :: (l.take l.length).drop c := h3
        subst h2' h3'
        refine Ev.step (fun k => by rw [spec_l2Put.l0]) (Ev.neg (by simp) (Ev.pos rfl ?_))
        rw [hput, List.take_length]
        exact Ev.now _) (0, false, []) ⟨rfl, .inl ⟨Nat.zero_le _, rfl, by simp⟩⟩
    subst hp
    exact hr
/-- What a change of scopes does to one set: way 0 puts in, 1 flips, 2 takes out. -/
def wayS (n : Int) (way : Int) (l : List Int) : List Int := if way = 2 then takeO l n else if way = 1 then flipS l n else putS l n
theorem wayS_len (n way : Int) (l : List Int) : (wayS n way l).length ≤ l.length + 1 := by
  have := len_takeO_le l n
  have := len_putS_le l n
  unfold wayS
  split
  · omega
  · split
    · unfold flipS; split
      · unfold takeO at *; omega
      · omega
    · omega
end Go.Proofs.Yteonncnhhccgeaa
end
section
namespace Go.Proofs.Yteonncnhhccgeaa
open Go.RowKit Go.Proofs.YteonncnhhccgeaaW.PrintWords Go.Proofs.YteonncnhhccgeaaW.PrintLast Go.Proofs.YteonncnhhccgeaaW.PrintMore Go.Proofs.Yteonncnhhccgeaa.Q
set_option linter.unusedVariables false
theorem l2Take_any (l : List Int) (n : Int) (A : Option Addr) (c : Nat) (w : World) (hr : kI.C w A l.length l) (hc : l.length ≤ c) (hl : l.length ≤ 1000000) : Calls Try.prog 154 #[.slice A l.length c, .int .i64 n] w (RetI w (takeO l n)) := by
  obtain ⟨k, hk⟩ := (ev_l2Take l n hl).rounds
  exact spec_l2Take.calls k A c l n _ w hr hc hk
theorem l2Put_any (l : List Int) (n : Int) (A : Option Addr) (c : Nat) (w : World) (hr : kI.C w A l.length l) (hc : l.length ≤ c) (hs : Srt l) (hl : l.length ≤ 1000000) : Calls Try.prog 155 #[.slice A l.length c, .int .i64 n] w (RetI w (putS l n)) := by
  obtain ⟨k, hk⟩ := (ev_l2Put l n hs hl).rounds
  exact spec_l2Put.calls k A c l n _ w hr hc hk
end Go.Proofs.Yteonncnhhccgeaa
end
section
namespace Go.Proofs.Yteonncnhhccgeaa
open Go.RowKit Go.Proofs.YteonncnhhccgeaaW.PrintWords Go.Proofs.YteonncnhhccgeaaW.PrintLast Go.Proofs.YteonncnhhccgeaaW.PrintMore
set_option linter.unusedVariables false
set_option linter.unusedSimpArgs false
theorem isOk_kids {x : Fm} (h : ∃ m, IsOk m x) : ∀ k, k ∈ x.f4 → ∃ m, IsOk m k := by
  intro k hk
  obtain ⟨q, h⟩ := h
  obtain ⟨m, rfl, h | h | h⟩ := isOk_cases h
  · rw [h.2.2.2.2] at hk; cases hk
  · rw [h.2.2.2.2.2] at hk; cases hk
  · exact ⟨m, h.2.2.2.2 k hk⟩
theorem isOk_no {n : Nat} {x : Fm} (h : IsOk n x) (h1 : x.f0 ≠ 1) : x.f3 = [] := by
  obtain ⟨m, rfl, h | h | h⟩ := isOk_cases h
  · exact absurd h.1 h1
  · exact h.2.2.2.2.1
  · exact h.2.2.2.1
set_option maxHeartbeats 4000000 in
set_option maxRecDepth 100000 in
theorem l2Change_any (n way : Int) : ∀ x : Fm, (∃ m, IsOk m x) → ∀ (A3 : Option Addr) (c3 : Nat) (A4 : Option Addr) (c4 : Nat) (w : World), FmIn w x A3 c3 A4 c4 → x.tot ≤ 1000000000 →
    Calls Try.prog 121 #[.agg #[.int .i64 x.f0, .string x.f1, .int .i64 x.f2, .slice A3 x.f3.length c3, .slice A4 x.f4.length c4], .int .i64 n, .int .i64 way] w (RetF w (x.chS (wayS n way))) := by
  intro x
  induction x using Fm.ind with
  | h x ih =>
    intro ha A3 c3 A4 c4 w hin ht
    have hmax := hin.g4.2.1
    have HI := Lib.hid hin
    have HT := Lib.hid ht
    have IH := Lib.hid ih
    have HA := Lib.hid ha
    clear hin ht ih ha
    go_enter Try.func121, Try.ntmps121
    go_wp2_with fail
    obtain ⟨kb1, kb2, hb0⟩ := two_new (w := w) (O1 := (.cells #[.int .i64 x.f0, .string x.f1, .int .i64 x.f2, .slice A3 x.f3.length c3, .slice A4 x.f4.length c4] 31)) (O2 := (.cells #[.int .i64 0, .string ⟨#[]⟩, .int .i64 0, .slice none 0 0, .slice none 0 0] 31)) (Below.refl _ _).drew
    obtain ⟨p0, p1, p2, p3, p4⟩ := fm_cells kb1
    refine start_ (n := 13) (S := fun w' => w'.cell? ⟨w.heap.size, 0, none⟩ = some (.int .i64 x.f0) ∧ w'.cell? ⟨w.heap.size, 1, none⟩ = some (.string x.f1) ∧ w'.cell? ⟨w.heap.size, 2, none⟩ = some (.int .i64 x.f2) ∧ w'.cell? ⟨w.heap.size, 3, none⟩ = some (.slice A3 x.f3.length c3)) (ds := []) #[false, false, false, false, false, false, false, false, false, false, false, false, false] (by kernel_rfl) rfl rfl ⟨p0, p1, p2, p3⟩ (fun hHeld => ?_)
    have hsz : w.heap.size + 2 ≤ (((w.alloc (.cells #[.int .i64 x.f0, .string x.f1, .int .i64 x.f2, .slice A3 x.f3.length c3, .slice A4 x.f4.length c4] 31)).alloc (.cells #[.int .i64 0, .string ⟨#[]⟩, .int .i64 0, .slice none 0 0, .slice none 0 0] 31)).drew).heap.size := by simp
    generalize World.drew _ = w5 at kb1 kb2 hb0 hsz p0 p1 p2 p3 p4 hHeld ⊢
    have P0 := Lib.hid p0
    have P1 := Lib.hid p1
    have P2 := Lib.hid p2
    have P3 := Lib.hid p3
    have KB1 := Lib.hid kb1
    have KB2 := Lib.hid kb2
    have HB0 := Lib.hid hb0
    have HSZ := Lib.hid hsz
    clear p0 p1 p2 p3 p4 kb1 kb2 hb0 hsz
    refine pure_ (i := 0) (N := some 9) (v := ?_) (a' := ?_) #[true, false, false, false, false, false, false, false, false, false, false, false, false] rfl rfl (by kernel_rfl) (fun _ _ _ h => h) (Or.inl ⟨by rfl, ?_⟩) ?_ ?_
    rotate_left
    · intro w'
      go_simp
      with_reducible rfl
    rotate_left
    · simp only [Act.put, List.setIfInBounds_toArray, List.set_cons_zero, List.set_cons_succ, i64_w, i32_w]
      rfl
    refine pure_ (i := 2) (N := some 11) (v := ?_) (a' := ?_) #[true, false, true, false, false, false, false, false, false, false, false, false, false] rfl rfl (by kernel_rfl) (fun _ _ _ h => h) (Or.inl ⟨by rfl, ?_⟩) ?_ ?_
    rotate_left
    · intro w'
      go_simp
      with_reducible rfl
    rotate_left
    · simp only [Act.put, List.setIfInBounds_toArray, List.set_cons_zero, List.set_cons_succ, i64_w, i32_w]
      rfl
    refine pure_ (i := 4) (N := some 13) (v := ?_) (a' := ?_) #[true, false, true, false, true, false, false, false, false, false, false, false, false] rfl rfl (by kernel_rfl) (fun _ _ _ h => h) (Or.inl ⟨by rfl, ?_⟩) ?_ ?_
    rotate_left
    · intro w'
      go_simp
      with_reducible rfl
    rotate_left
    · simp only [Act.put, List.setIfInBounds_toArray, List.set_cons_zero, List.set_cons_succ, i64_w, i32_w]
      rfl
    refine pure_ (i := 7) (N := some 16) (v := ?_) (a' := ?_) #[true, false, true, false, true, false, false, true, false, false, false, false, false] rfl rfl (by kernel_rfl) (fun _ _ _ h => h) (Or.inl ⟨by rfl, ?_⟩) ?_ ?_
    rotate_left
    · intro w'
      go_simp
      with_reducible rfl
    rotate_left
    · simp only [Act.put, List.setIfInBounds_toArray, List.set_cons_zero, List.set_cons_succ, i64_w, i32_w]
      rfl
    refine take_ (i := 1) (N := some 10) (v := ?_) (a' := ?_) #[true, true, true, false, true, false, false, true, false, false, false, false, false] rfl rfl (by kernel_rfl) (fun _ _ _ h => h) (Or.inl ⟨by rfl, ?_⟩) hHeld ?_ ?_
    rotate_left
    · rintro w' ⟨s0, s1, s2, s3⟩
      go_simp
      with_reducible rfl
    rotate_left
    · simp only [Act.put, List.setIfInBounds_toArray, List.set_cons_zero, List.set_cons_succ, i64_w, i32_w]
      rfl
    refine take_ (i := 3) (N := some 12) (v := ?_) (a' := ?_) #[true, true, true, true, true, false, false, true, false, false, false, false, false] rfl rfl (by kernel_rfl) (fun _ _ _ h => h) (Or.inl ⟨by rfl, ?_⟩) hHeld ?_ ?_
    rotate_left
    · rintro w' ⟨s0, s1, s2, s3⟩
      go_simp
      with_reducible rfl
    rotate_left
    · simp only [Act.put, List.setIfInBounds_toArray, List.set_cons_zero, List.set_cons_succ, i64_w, i32_w]
      rfl
    refine take_ (i := 5) (N := some 14) (v := ?_) (a' := ?_) #[true, true, true, true, true, true, false, true, false, false, false, false, false] rfl rfl (by kernel_rfl) (fun _ _ _ h => h) (Or.inl ⟨by rfl, ?_⟩) hHeld ?_ ?_
    rotate_left
    · rintro w' ⟨s0, s1, s2, s3⟩
      go_simp
      with_reducible rfl
    rotate_left
    · simp only [Act.put, List.setIfInBounds_toArray, List.set_cons_zero, List.set_cons_succ, i64_w, i32_w]
      rfl
    refine take_ (i := 8) (N := some 17) (v := ?_) (a' := ?_) #[true, true, true, true, true, true, false, true, true, false, false, false, false] rfl rfl (by kernel_rfl) (fun _ _ _ h => h) (Or.inl ⟨by rfl, ?_⟩) hHeld ?_ ?_
    rotate_left
    · rintro w' ⟨s0, s1, s2, s3⟩
      go_simp
      with_reducible rfl
    rotate_left
    · simp only [Act.put, List.setIfInBounds_toArray, List.set_cons_zero, List.set_cons_succ, i64_w, i32_w]
      rfl
    refine join_ (σ := Value × Value × Nat) 1 #[true, true, true, true, true, true, true, true, true, true, true, true, false] (fun s_ => [(15, s_.1), (18, s_.2.1), (7, .pointer (some ⟨s_.2.2, 0, none⟩)), (19, .agg #[.int .i64 x.f0, .string x.f1, .int .i64 x.f2, s_.2.1, .slice none 0 0])]) (fun s_ w' => Below w5.heap.size w5 w' ∧ kI.R 3 w' w5.heap.size (fun _ => True) s_.2.1 x.f3 ∧ w'.heap[s_.2.2]? = some (.cells #[.int .i64 0, .string ⟨#[]⟩, .int .i64 0, .slice none 0 0, .slice none 0 0] 31) ∧ w5.heap.size ≤ s_.2.2) ?_ ?_
    rotate_left
    · intro hCont
      refine two_ (i := 6) (j := 11) (Ni := some 15) (Nj := some 7) #[true, true, true, true, true, true, true, true, true, false, false, false, false] #[true, true, true, true, true, true, false, true, true, false, false, true, false] rfl rfl rfl rfl (by kernel_rfl) (by decide) (by decide) (fun K hK => ?_) (fun K hK => ?_)
      · refine Kd.R_lit_step (Kd.int .i64) _ 3 ?hg (N := 15) ?hd (xs := ([] : List Int)) (inner := []) (ok := fun _ => True) (okp := fun _ => True) ?hr ?hp (fun _ hk => hk) trivial (Below.refl _ _) (Nat.le_refl _) (by simp) ?_; (case hd => rfl); (case hg => rfl); (case hr => first | (go_simp; done) | (go_simp; rfl)); (case hp => exact (Reps.none _ _))
        intro v0 w6 ho0 hb6 hg6 hn6
        clear hg6 hn6
        refine hK.out _ _ ⟨ck0 hb6 P0.out, ck0 hb6 P1.out, ck0 hb6 P2.out, ck0 hb6 P3.out⟩ (fun hHeld => ?_)
        clear hK K
        refine norm_ (a' := ?_) ?_ ?_
        rotate_left
        · show Act.put _ (some 15) _ = _
          simp only [Act.put, List.setIfInBounds_toArray, List.set_cons_zero, List.set_cons_succ, i64_w, i32_w]
          rfl
        refine two_ (i := 9) (j := 11) (Ni := some 18) (Nj := some 7) #[true, true, true, true, true, true, true, true, true, true, false, false, false] #[true, true, true, true, true, true, true, true, true, false, false, true, false] rfl rfl rfl rfl (by kernel_rfl) (by decide) (by decide) (fun K hK => ?_) (fun K hK => ?_)
        · refine Kd.R_append_rows_step (Kd.int .i64) (w0 := w5) w5.heap.size (by rfl) (.tmp 15) (.tmp 17) 23 3 (.int .i64 0) 8 rfl Try.underlying23 infoI rfl (by decide) (by omega) v0 [] x.f3 _ _ _ (fun _ => True) (fun _ => False) rfl rfl ho0 (Kd.C_below HI.out.g3 (below_step HB0.out hb6)) (fun _ _ h => h) (fun _ h => h.elim) (fun _ _ => trivial) hb6 hb6.size (by have := HT.out; have := scTot x; simp; omega) ?_
          intro v3 w7 ho3 hb7 hg7 hat7
          rw [List.nil_append] at ho3
          obtain ⟨D3, e3, rfl⟩ := Kd.R_slice ho3
          refine hK.out _ _ ⟨ck0 hb7 P0.out, ck0 hb7 P1.out, ck0 hb7 P2.out, ck0 hb7 P3.out⟩ (fun hHeld => ?_)
          clear hK K
          refine norm_ (a' := ?_) ?_ ?_
          rotate_left
          · show Act.put _ (some 18) _ = _
            simp only [Act.put, List.setIfInBounds_toArray, List.set_cons_zero, List.set_cons_succ, i64_w, i32_w]
            rfl
          refine pure_ (i := 10) (N := some 19) (v := ?_) (a' := ?_) #[true, true, true, true, true, true, true, true, true, true, true, false, false] rfl rfl (by kernel_rfl) (fun _ _ _ h => h) (Or.inl ⟨by rfl, ?_⟩) ?_ ?_
          rotate_left
          · intro w'
            go_simp
            with_reducible rfl
          rotate_left
          · simp only [Act.put, List.setIfInBounds_toArray, List.set_cons_zero, List.set_cons_succ, i64_w, i32_w]
            rfl
          refine one_ (i := 11) (N := some 7) #[true, true, true, true, true, true, true, true, true, true, true, true, false] rfl rfl (by kernel_rfl) (by decide) (fun K hK => ?_)
          refine box_step ?hg (N := 7) ?hd (cs := #[.int .i64 0, .string ⟨#[]⟩, .int .i64 0, .slice none 0 0, .slice none 0 0]) (t := 31) ?hr ?_; (case hd => rfl); (case hg => rfl); (case hr => first | (go_simp; done) | (go_simp; rfl))
          intro g3 hg w8 hbox hb8
          have hb9 := below_step hb7 hb8
          refine hK.out _ _ ⟨ck0 hb9 P0.out, ck0 hb9 P1.out, ck0 hb9 P2.out, ck0 hb9 P3.out⟩ (fun hHeld => ?_)
          clear hK K
          refine norm_ (a' := ?_) ?_ ?_
          rotate_left
          · show Act.put _ (some 7) _ = _
            simp only [Act.put, List.setIfInBounds_toArray, List.set_cons_zero, List.set_cons_succ, i64_w, i32_w]
            rfl
          exact norm_ (by simp only [putAll, Act.put, List.setIfInBounds_toArray, List.set_cons_zero, List.set_cons_succ]) (hCont (v0, .slice D3 x.f3.length e3, g3) _ ⟨hb9, Kd.R_below ho3 hb8, hbox, hg ▸ hb7.size⟩)
        · refine box_step ?hg (N := 7) ?hd (cs := #[.int .i64 0, .string ⟨#[]⟩, .int .i64 0, .slice none 0 0, .slice none 0 0]) (t := 31) ?hr ?_; (case hd => rfl); (case hg => rfl); (case hr => first | (go_simp; done) | (go_simp; rfl))
          intro g3 hg w7 hbox hb7
          have hb8 := below_step hb6 hb7
          have ho8 := Kd.R_below ho0 hb7
          have hne := Kd.R_ne ho8 hbox (by decide)
          refine hK.out _ _ ⟨ck0 hb8 P0.out, ck0 hb8 P1.out, ck0 hb8 P2.out, ck0 hb8 P3.out⟩ (fun hHeld => ?_)
          clear hK K
          refine norm_ (a' := ?_) ?_ ?_
          rotate_left
          · show Act.put _ (some 7) _ = _
            simp only [Act.put, List.setIfInBounds_toArray, List.set_cons_zero, List.set_cons_succ, i64_w, i32_w]
            rfl
          refine one_ (i := 9) (N := some 18) #[true, true, true, true, true, true, true, true, true, true, false, true, false] rfl rfl (by kernel_rfl) (by decide) (fun K hK => ?_)
          refine Kd.R_append_rows_step (Kd.int .i64) (w0 := w5) w5.heap.size (by rfl) (.tmp 15) (.tmp 17) 23 3 (.int .i64 0) 8 rfl Try.underlying23 infoI rfl (by decide) (by omega) v0 [] x.f3 _ _ _ (fun _ => True) (fun _ => False) rfl rfl ho8 (Kd.C_below HI.out.g3 (below_step HB0.out hb8)) (fun _ _ h => h) (fun _ h => h.elim) (fun _ _ => trivial) hb8 hb8.size (by have := HT.out; have := scTot x; simp; omega) ?_
          intro v3 w9 ho3 hb9 hg9 hat9
          rw [List.nil_append] at ho3
          obtain ⟨D3, e3, rfl⟩ := Kd.R_slice ho3
          refine hK.out _ _ ⟨ck0 hb9 P0.out, ck0 hb9 P1.out, ck0 hb9 P2.out, ck0 hb9 P3.out⟩ (fun hHeld => ?_)
          clear hK K
          refine norm_ (a' := ?_) ?_ ?_
          rotate_left
          · show Act.put _ (some 18) _ = _
            simp only [Act.put, List.setIfInBounds_toArray, List.set_cons_zero, List.set_cons_succ, i64_w, i32_w]
            rfl
          refine pure_ (i := 10) (N := some 19) (v := ?_) (a' := ?_) #[true, true, true, true, true, true, true, true, true, true, true, true, false] rfl rfl (by kernel_rfl) (fun _ _ _ h => h) (Or.inl ⟨by rfl, ?_⟩) ?_ ?_
          rotate_left
          · intro w'
            go_simp
            with_reducible rfl
          rotate_left
          · simp only [Act.put, List.setIfInBounds_toArray, List.set_cons_zero, List.set_cons_succ, i64_w, i32_w]
            rfl
          exact norm_ (by simp only [putAll, Act.put, List.setIfInBounds_toArray, List.set_cons_zero, List.set_cons_succ]) (hCont (v0, .slice D3 x.f3.length e3, g3) _ ⟨hb9, ho3, blk_grown hbox hg9 hne, hg ▸ hb6.size⟩)
      · refine box_step ?hg (N := 7) ?hd (cs := #[.int .i64 0, .string ⟨#[]⟩, .int .i64 0, .slice none 0 0, .slice none 0 0]) (t := 31) ?hr ?_; (case hd => rfl); (case hg => rfl); (case hr => first | (go_simp; done) | (go_simp; rfl))
        intro g3 hg w6 hbox hb6
        refine hK.out _ _ ⟨ck0 hb6 P0.out, ck0 hb6 P1.out, ck0 hb6 P2.out, ck0 hb6 P3.out⟩ (fun hHeld => ?_)
        clear hK K
        refine norm_ (a' := ?_) ?_ ?_
        rotate_left
        · show Act.put _ (some 7) _ = _
          simp only [Act.put, List.setIfInBounds_toArray, List.set_cons_zero, List.set_cons_succ, i64_w, i32_w]
          rfl
        refine one_ (i := 6) (N := some 15) #[true, true, true, true, true, true, true, true, true, false, false, true, false] rfl rfl (by kernel_rfl) (by decide) (fun K hK => ?_)
        refine Kd.R_lit_step (Kd.int .i64) _ 3 ?hg (N := 15) ?hd (xs := ([] : List Int)) (inner := []) (ok := fun _ => True) (okp := fun _ => True) ?hr ?hp (fun _ hk => hk) trivial (Below.refl _ _) (Nat.le_refl _) (by simp) ?_; (case hd => rfl); (case hg => rfl); (case hr => first | (go_simp; done) | (go_simp; rfl)); (case hp => exact (Reps.none _ _))
        intro v0 w7 ho0 hb7 hg7 hn7
        have hbox7 := blk_below hbox hb7
        have hb8 := below_step hb6 hb7
        have ho8 := Kd.R_lower ho0 hb6.size
        have hne := Kd.R_ne ho0 hbox7 (by decide)
        refine hK.out _ _ ⟨ck0 hb8 P0.out, ck0 hb8 P1.out, ck0 hb8 P2.out, ck0 hb8 P3.out⟩ (fun hHeld => ?_)
        clear hK K
        refine norm_ (a' := ?_) ?_ ?_
        rotate_left
        · show Act.put _ (some 15) _ = _
          simp only [Act.put, List.setIfInBounds_toArray, List.set_cons_zero, List.set_cons_succ, i64_w, i32_w]
          rfl
        refine one_ (i := 9) (N := some 18) #[true, true, true, true, true, true, true, true, true, true, false, true, false] rfl rfl (by kernel_rfl) (by decide) (fun K hK => ?_)
        refine Kd.R_append_rows_step (Kd.int .i64) (w0 := w5) w5.heap.size (by rfl) (.tmp 15) (.tmp 17) 23 3 (.int .i64 0) 8 rfl Try.underlying23 infoI rfl (by decide) (by omega) v0 [] x.f3 _ _ _ (fun _ => True) (fun _ => False) rfl rfl ho8 (Kd.C_below HI.out.g3 (below_step HB0.out hb8)) (fun _ _ h => h) (fun _ h => h.elim) (fun _ _ => trivial) hb8 hb8.size (by have := HT.out; have := scTot x; simp; omega) ?_
        intro v3 w9 ho3 hb9 hg9 hat9
        rw [List.nil_append] at ho3
        obtain ⟨D3, e3, rfl⟩ := Kd.R_slice ho3
        refine hK.out _ _ ⟨ck0 hb9 P0.out, ck0 hb9 P1.out, ck0 hb9 P2.out, ck0 hb9 P3.out⟩ (fun hHeld => ?_)
        clear hK K
        refine norm_ (a' := ?_) ?_ ?_
        rotate_left
        · show Act.put _ (some 18) _ = _
          simp only [Act.put, List.setIfInBounds_toArray, List.set_cons_zero, List.set_cons_succ, i64_w, i32_w]
          rfl
        refine pure_ (i := 10) (N := some 19) (v := ?_) (a' := ?_) #[true, true, true, true, true, true, true, true, true, true, true, true, false] rfl rfl (by kernel_rfl) (fun _ _ _ h => h) (Or.inl ⟨by rfl, ?_⟩) ?_ ?_
        rotate_left
        · intro w'
          go_simp
          with_reducible rfl
        rotate_left
        · simp only [Act.put, List.setIfInBounds_toArray, List.set_cons_zero, List.set_cons_succ, i64_w, i32_w]
          rfl
        exact norm_ (by simp only [putAll, Act.put, List.setIfInBounds_toArray, List.set_cons_zero, List.set_cons_succ]) (hCont (v0, .slice D3 x.f3.length e3, g3) _ ⟨hb9, ho3, blk_grown hbox7 hg9 hne, Nat.le_of_eq hg.symm⟩)
    rintro ⟨v0, v3, g3⟩ wz ⟨hbz, ho3, hbox, hg3⟩
    dsimp only at ho3 hbox hg3
    have hHeld : True := trivial
    refine norm_ (a' := ?_) ?_ ?_
    rotate_left
    · simp only [putAll, Act.put, List.setIfInBounds_toArray, List.set_cons_zero, List.set_cons_succ]
      rfl
    have K1z := blk_below KB1.out hbz
    have hl1 := blk_lt KB1.out
    have hne3 := Kd.R_ne ho3 hbox (by decide)
    obtain ⟨D3, e3, rfl⟩ := Kd.R_slice ho3
    obtain ⟨st1, st2, st3⟩ := st5 hbox (.int .i64 x.f0) (.string x.f1) (.int .i64 x.f2) (.slice D3 x.f3.length e3) (.slice none 0 0)
    have hS5 := fm_cells ((st2 w.heap.size (by omega)).trans K1z)
    have HCP := Lib.hid (Cp.start (w := w) KB1.out KB2.out HB0.out HSZ.out hbz ho3 hg3 hne3 st1 st2 (st3 _ _ hbz hg3))
    obtain ⟨z0, z1, z2, z3, z4⟩ := fm_cells hbox
    obtain ⟨f0, f1, f2, f3, f4⟩ := fm_free hbox
    clear hbz ho3 hbox hg3 K1z hl1 hne3 st1 st2 st3 KB1 KB2 HB0 HSZ P0 P1 P2 P3
    refine one_ (i := 12) (N := none) #[true, true, true, true, true, true, true, true, true, true, true, true, true] rfl rfl (by kernel_rfl) (by decide) (fun K hK => ?_)
    refine skip_ (w1 := ?_) (by rfl) rfl ?_ ?_
    rotate_left
    · go_simp
      rfl
    refine hK.out _ _ ⟨hS5.1, hS5.2.1, hS5.2.2.1, hS5.2.2.2.1⟩ (fun hHeld => ?_)
    clear hK K z0 z1 z2 z3 z4 f0 f1 f2 f3 f4 hS5
    refine done_ (by kernel_rfl) ?_
    generalize World.setCell _ _ _ = wq at HCP hHeld ⊢
    clear hHeld
    obtain ⟨l0, l1, l2, l3, l4⟩ := fm_cells HCP.out.fr.k1
    go_upto_if 22 with fail
    (try simp only [Act.put, List.setIfInBounds_toArray, List.set_cons_zero, List.set_cons_succ])
    go_cut [] (fun wc => ∃ (sc : List Int) (D3 : Option Addr) (e3 : Nat), Aside0 (sc = if x.f0 = 1 then wayS n way x.f3 else []) ∧ Aside0 (Cp w (.cells #[.int .i64 x.f0, .string x.f1, .int .i64 x.f2, .slice A3 x.f3.length c3, .slice A4 x.f4.length c4] 31) (.cells #[.int .i64 0, .string ⟨#[]⟩, .int .i64 0, .slice none 0 0, .slice none 0 0] 31) g3 x.f0 x.f1 x.f2 sc [] (.slice D3 sc.length e3) (.slice none 0 0) [] [] wc))
    case first =>
      by_cases h1 : x.f0 = 1
      · have t1 : (x.f0 == 1) = true := beq_iff_eq.mpr h1
        obtain ⟨s1, s2, s3⟩ := scOk_iff.1 ((isOk_sc HA.out.choose_spec).at h1).1
        have HL := Lib.hid s1
        have HS := Lib.hid s2
        have HX1 := Lib.hid h1
        clear h1 s1 s2 s3
        (first | rw [t1] | skip)
        by_cases w2 : way = 2
        · have t2 : (way == 2) = true := beq_iff_eq.mpr w2
          have HY2 := Lib.hid w2
          clear w2
          go_wp2_with fail
          refine (l2Take_any x.f3 n A3 c3 _ (Kd.C_below HI.out.g3 HCP.out.fr.b) HI.out.l3 (by have := HL.out; omega)).mono ?_
          rintro e w5 ⟨v0, rfl, hr5, hb5⟩
          obtain ⟨D5, e5, rfl⟩ := Kd.R_slice hr5
          have HR5 := Aside0.mk hr5
          have HB5 := Lib.hid hb5
          have z3 := (fm_cells (HCP.out.later HB5.out).fr.k3).2.2.2.1
          have f3 := (fm_free (HCP.out.later HB5.out).fr.k3).2.2.2.1
          clear hr5 hb5
          go_wp2
          go_meet
          case rel => exact ⟨_, _, _, ⟨by rw [if_pos HX1.out, wayS, if_pos HY2.out]⟩, ⟨HCP.out.rescope HB5.out HR5.out⟩⟩
        · have t2 : (way == 2) = false := beq_eq_false_iff_ne.mpr w2
          have HY2 := Lib.hid w2
          clear w2
          by_cases w1 : way = 1
          · have t3 : (way == 1) = true := beq_iff_eq.mpr w1
            have HY1 := Lib.hid w1
            clear w1
            go_wp2_with fail
            refine (l2Has_any x.f3 n A3 c3 _ (Kd.C_below HI.out.g3 HCP.out.fr.b) HI.out.l3).mono ?_
            rintro e w4 ⟨rfl, hb4⟩
            have HB4 := Lib.hid hb4
            have hq4 := HCP.out.later hb4
            obtain ⟨m0, m1, m2, m3, m4⟩ := fm_cells hq4.fr.k1
            clear hb4 hq4
            by_cases hm : n ∈ x.f3
            · rw [decide_eq_true hm]
              have HM := Lib.hid hm
              clear hm
              go_wp2_with fail
              refine (l2Take_any x.f3 n A3 c3 _ (Kd.C_below HI.out.g3 (HCP.out.later HB4.out).fr.b) HI.out.l3 (by have := HL.out; omega)).mono ?_
              rintro e w5 ⟨v0, rfl, hr5, hb5⟩
              obtain ⟨D5, e5, rfl⟩ := Kd.R_slice hr5
              have HR5 := Aside0.mk (Kd.R_lower hr5 HB4.out.size)
              have HB5 := Lib.hid (below_step HB4.out hb5)
              have z3 := (fm_cells (HCP.out.later HB5.out).fr.k3).2.2.2.1
              have f3 := (fm_free (HCP.out.later HB5.out).fr.k3).2.2.2.1
              clear hr5 hb5
              go_wp2
              go_meet
              case rel => exact ⟨_, _, _, ⟨by rw [if_pos HX1.out, wayS, if_neg HY2.out, if_pos HY1.out, flipS, if_pos HM.out]⟩, ⟨HCP.out.rescope HB5.out HR5.out⟩⟩
            · rw [decide_eq_false hm]
              have HM := Lib.hid hm
              clear hm
              go_wp2_with fail
              refine (l2Put_any x.f3 n A3 c3 _ (Kd.C_below HI.out.g3 (HCP.out.later HB4.out).fr.b) HI.out.l3 HS.out (by have := HL.out; omega)).mono ?_
              rintro e w5 ⟨v0, rfl, hr5, hb5⟩
              obtain ⟨D5, e5, rfl⟩ := Kd.R_slice hr5
              have HR5 := Aside0.mk (Kd.R_lower hr5 HB4.out.size)
              have HB5 := Lib.hid (below_step HB4.out hb5)
              have z3 := (fm_cells (HCP.out.later HB5.out).fr.k3).2.2.2.1
              have f3 := (fm_free (HCP.out.later HB5.out).fr.k3).2.2.2.1
              clear hr5 hb5
              go_wp2
              go_meet
              case rel => exact ⟨_, _, _, ⟨by rw [if_pos HX1.out, wayS, if_neg HY2.out, if_pos HY1.out, flipS, if_neg HM.out]⟩, ⟨HCP.out.rescope HB5.out HR5.out⟩⟩
          · have t3 : (way == 1) = false := beq_eq_false_iff_ne.mpr w1
            have HY1 := Lib.hid w1
            clear w1
            go_wp2_with fail
            refine (l2Put_any x.f3 n A3 c3 _ (Kd.C_below HI.out.g3 HCP.out.fr.b) HI.out.l3 HS.out (by have := HL.out; omega)).mono ?_
            rintro e w5 ⟨v0, rfl, hr5, hb5⟩
            obtain ⟨D5, e5, rfl⟩ := Kd.R_slice hr5
            have HR5 := Aside0.mk hr5
            have HB5 := Lib.hid hb5
            have z3 := (fm_cells (HCP.out.later HB5.out).fr.k3).2.2.2.1
            have f3 := (fm_free (HCP.out.later HB5.out).fr.k3).2.2.2.1
            clear hr5 hb5
            go_wp2
            go_meet
            case rel => exact ⟨_, _, _, ⟨by rw [if_pos HX1.out, wayS, if_neg HY2.out, if_neg HY1.out]⟩, ⟨HCP.out.rescope HB5.out HR5.out⟩⟩
      · have t1 : (x.f0 == 1) = false := beq_eq_false_iff_ne.mpr h1
        have HX1 := Lib.hid h1
        have HX3 := Lib.hid (isOk_no HA.out.choose_spec h1)
        clear h1
        (first | rw [t1] | skip)
        go_wp2
        go_meet
        case rel => exact ⟨_, _, _, ⟨by rw [if_neg HX1.out]; exact HX3.out⟩, ⟨HCP.out⟩⟩
    case rest =>
      obtain ⟨sc, D3, e3, HSC, HCP⟩ := hcut
      try go_wp2_with fail
      go_loopg [8] x.f4.length (fun kq v4 w' => ∃ i : Nat, i ≤ x.f4.length ∧ x.f4.length - i ≤ kq ∧ v4 = .int .i64 i ∧ Aside0 (∃ v inner fp, Cp w (.cells #[.int .i64 x.f0, .string x.f1, .int .i64 x.f2, .slice A3 x.f3.length c3, .slice A4 x.f4.length c4] 31) (.cells #[.int .i64 0, .string ⟨#[]⟩, .int .i64 0, .slice none 0 0, .slice none 0 0] 31) g3 x.f0 x.f1 x.f2 sc ((x.f4.take i).map (Fm.chS (wayS n way))) (.slice D3 sc.length e3) v inner fp w'))
      case atStart => exact ⟨0, Nat.zero_le _, by omega, rfl, ⟨⟨.slice none 0 0, [], [], by simpa using HCP.out⟩⟩⟩
      case round =>
        obtain ⟨i, hi, hg, rfl, HO⟩ := hrel
        by_cases hlt : i < x.f4.length
        · obtain ⟨v, inner, fp, hC⟩ := HO.out
          obtain ⟨p0, p1, p2, p3, p4⟩ := fm_cells hC.fr.k1
          obtain ⟨ad, G3, m3, G4, m4, e, g0, g1, g2, g3_, g4, hk⟩ := kid_at HI.out.g4 i hlt
          subst e
          have hkt := totL_mem (List.getElem_mem hlt)
          have hxt := HT.out
          rw [Fm.tot_eq] at hxt
          have r1 : (0 : Int) ≤ (i : Int) := by omega
          have r2 : (i : Int) < (x.f4.length : Int) := by omega
          have hlen := len_totL x.f4
          have HKT := Lib.hid (show x.f4[i].tot ≤ 1000000000 by omega)
          have HLN := Lib.hid (show x.f4.length ≤ 1000000000 by omega)
          have HK := Lib.hid hk
          have HC := Lib.hid hC
          have SK := Lib.hid (fun (W : World) (hf : Fr w (.cells #[.int .i64 x.f0, .string x.f1, .int .i64 x.f2, .slice A3 x.f3.length c3, .slice (some ad) x.f4.length c4] 31) (.cells #[.int .i64 0, .string ⟨#[]⟩, .int .i64 0, .slice none 0 0, .slice none 0 0] 31) g3 #[.int .i64 x.f0, .string x.f1, .int .i64 x.f2, (.slice D3 sc.length e3), v] W) => (⟨(fm_cells hf.k1).2.2.2.2, (fm_cells hf.k3).2.2.2.2, ck0 hf.b g0, ck0 hf.b g1, ck0 hf.b g2, ck0 hf.b g3_, ck0 hf.b g4⟩ : (fun w' => w'.cell? ⟨w.heap.size, 4, none⟩ = some (.slice (some ad) x.f4.length c4) ∧ w'.cell? ⟨g3, 4, none⟩ = some v ∧ w'.cell? (ad.add (i * 5)) = some (.int .i64 x.f4[i].f0) ∧ w'.cell? ⟨(ad.add (i * 5)).block, (ad.add (i * 5)).off + 1, none⟩ = some (.string x.f4[i].f1) ∧ w'.cell? ⟨(ad.add (i * 5)).block, (ad.add (i * 5)).off + 2, none⟩ = some (.int .i64 x.f4[i].f2) ∧ w'.cell? ⟨(ad.add (i * 5)).block, (ad.add (i * 5)).off + 3, none⟩ = some (.slice G3 x.f4[i].f3.length m3) ∧ w'.cell? ⟨(ad.add (i * 5)).block, (ad.add (i * 5)).off + 4, none⟩ = some (.slice G4 x.f4[i].f4.length m4)) W))
          clear hC hk p0 p1 p2 p3 hkt hxt hlen g0 g1 g2 g3_ g4
          go_wp2_with fail
          have HD := Lib.hid (HC.out.later (below_drew (Below.refl _ _)))
          refine start_ (n := 14) (S := fun w' => w'.cell? ⟨w.heap.size, 4, none⟩ = some (.slice (some ad) x.f4.length c4) ∧ w'.cell? ⟨g3, 4, none⟩ = some v ∧ w'.cell? (ad.add (i * 5)) = some (.int .i64 x.f4[i].f0) ∧ w'.cell? ⟨(ad.add (i * 5)).block, (ad.add (i * 5)).off + 1, none⟩ = some (.string x.f4[i].f1) ∧ w'.cell? ⟨(ad.add (i * 5)).block, (ad.add (i * 5)).off + 2, none⟩ = some (.int .i64 x.f4[i].f2) ∧ w'.cell? ⟨(ad.add (i * 5)).block, (ad.add (i * 5)).off + 3, none⟩ = some (.slice G3 x.f4[i].f3.length m3) ∧ w'.cell? ⟨(ad.add (i * 5)).block, (ad.add (i * 5)).off + 4, none⟩ = some (.slice G4 x.f4[i].f4.length m4)) (ds := [13]) #[false, false, false, false, false, false, false, false, false, false, false, false, false, false] (by kernel_rfl) rfl rfl (SK.out _ HD.out.fr) (fun hHeld => ?_)
          clear p4
          generalize wr.drew = wd at HD hHeld ⊢
          refine pure_ (i := 0) (N := some 52) (v := ?_) (a' := ?_) #[true, false, false, false, false, false, false, false, false, false, false, false, false, false] rfl rfl (by kernel_rfl) (fun _ _ _ h => h) (Or.inl ⟨by rfl, ?_⟩) ?_ ?_
          rotate_left
          · intro w'
            go_simp
            with_reducible rfl
          rotate_left
          · simp only [Act.put, List.setIfInBounds_toArray, List.set_cons_zero, List.set_cons_succ, i64_w, i32_w]
            rfl
          refine pure_ (i := 2) (N := some 54) (v := ?_) (a' := ?_) #[true, false, true, false, false, false, false, false, false, false, false, false, false, false] rfl rfl (by kernel_rfl) (fun _ _ _ h => h) (Or.inl ⟨by rfl, ?_⟩) ?_ ?_
          rotate_left
          · intro w'
            go_simp
            with_reducible rfl
          rotate_left
          · simp only [Act.put, List.setIfInBounds_toArray, List.set_cons_zero, List.set_cons_succ, i64_w, i32_w]
            rfl
          refine pure_ (i := 4) (N := some 56) (v := ?_) (a' := ?_) #[true, false, true, false, true, false, false, false, false, false, false, false, false, false] rfl rfl (by kernel_rfl) (fun _ _ _ h => h) (Or.inl ⟨by rfl, ?_⟩) ?_ ?_
          rotate_left
          · intro w'
            go_simp
            with_reducible rfl
          rotate_left
          · simp only [Act.put, List.setIfInBounds_toArray, List.set_cons_zero, List.set_cons_succ, i64_w, i32_w]
            rfl
          refine pure_ (i := 7) (N := some 59) (v := ?_) (a' := ?_) #[true, false, true, false, true, false, false, true, false, false, false, false, false, false] rfl rfl (by kernel_rfl) (fun _ _ _ h => h) (Or.inl ⟨by rfl, ?_⟩) ?_ ?_
          rotate_left
          · intro w'
            go_simp
            with_reducible rfl
          rotate_left
          · simp only [Act.put, List.setIfInBounds_toArray, List.set_cons_zero, List.set_cons_succ, i64_w, i32_w]
            rfl
          refine pure_ (i := 8) (N := some 60) (v := ?_) (a' := ?_) #[true, false, true, false, true, false, false, true, true, false, false, false, false, false] rfl rfl (by kernel_rfl) (fun _ _ _ h => h) (Or.inl ⟨by rfl, ?_⟩) ?_ ?_
          rotate_left
          · intro w'
            go_simp
            with_reducible rfl
          rotate_left
          · simp only [Act.put, List.setIfInBounds_toArray, List.set_cons_zero, List.set_cons_succ, i64_w, i32_w]
            rfl
          refine take_ (i := 1) (N := some 53) (v := ?_) (a' := ?_) #[true, true, true, false, true, false, false, true, true, false, false, false, false, false] rfl rfl (by kernel_rfl) (fun _ _ _ h => h) (Or.inl ⟨by rfl, ?_⟩) hHeld ?_ ?_
          rotate_left
          · rintro w' ⟨s0, s1, s2, s3, s4, s5, s6⟩
            go_simp
            with_reducible rfl
          rotate_left
          · simp only [Act.put, List.setIfInBounds_toArray, List.set_cons_zero, List.set_cons_succ, i64_w, i32_w]
            rfl
          refine take_ (i := 3) (N := some 55) (v := ?_) (a' := ?_) #[true, true, true, true, true, false, false, true, true, false, false, false, false, false] rfl rfl (by kernel_rfl) (fun _ _ _ h => h) (Or.inl ⟨by rfl, ?_⟩) hHeld ?_ ?_
          rotate_left
          · rintro w' ⟨s0, s1, s2, s3, s4, s5, s6⟩
            go_simp
            with_reducible rfl
          rotate_left
          · simp only [Act.put, List.setIfInBounds_toArray, List.set_cons_zero, List.set_cons_succ, i64_w, i32_w]
            rfl
          refine pure_ (i := 5) (N := some 57) (v := ?_) (a' := ?_) #[true, true, true, true, true, true, false, true, true, false, false, false, false, false] rfl rfl (by kernel_rfl) (fun _ _ _ h => h) (Or.inl ⟨by rfl, ?_⟩) ?_ ?_
          rotate_left
          · intro w'
            go_simp
            with_reducible rfl
          rotate_left
          · simp only [Act.put, List.setIfInBounds_toArray, List.set_cons_zero, List.set_cons_succ, i64_w, i32_w]
            rfl
          refine take_ (i := 6) (N := some 58) (v := ?_) (a' := ?_) #[true, true, true, true, true, true, true, true, true, false, false, false, false, false] rfl rfl (by kernel_rfl) (fun _ _ _ h => h) (Or.inl ⟨by rfl, ?_⟩) hHeld ?_ ?_
          rotate_left
          · rintro w' ⟨s0, s1, s2, s3, s4, s5, s6⟩
            go_simp
            with_reducible rfl
          rotate_left
          · simp only [Act.put, List.setIfInBounds_toArray, List.set_cons_zero, List.set_cons_succ, i64_w, i32_w]
            rfl
          refine one_ (i := 9) (N := some 61) #[true, true, true, true, true, true, true, true, true, true, false, false, false, false] rfl rfl (by kernel_rfl) (by decide) (fun K hK => ?_)
          refine goes_ Try.func121 (by kernel_rfl) rfl #[.agg #[.int .i64 x.f4[i].f0, .string x.f4[i].f1, .int .i64 x.f4[i].f2, .slice G3 x.f4[i].f3.length m3, .slice G4 x.f4[i].f4.length m4], .int .i64 n, .int .i64 way] (by rfl) rfl rfl (by (try simp only [List.map_toArray, List.map_cons, List.map_nil]); first | done | rfl) ?_
          refine (IH.out x.f4[i] (List.getElem_mem hlt) (isOk_kids HA.out _ (List.getElem_mem hlt)) G3 m3 G4 m4 wd (HK.out.below HD.out.fr.b) HKT.out).mono ?_
          rintro e w7 ⟨u3, u4, rfl, hn, hb7⟩
          refine ⟨_, rfl, ?_⟩
          obtain ⟨J3, q3, J4, q4, rfl, rfl⟩ : ∃ J3 q3 J4 q4, u3 = .slice J3 (x.f4[i].chS (wayS n way)).f3.length q3 ∧ u4 = .slice J4 (x.f4[i].chS (wayS n way)).f4.length q4 := by
            obtain ⟨fk, hk2, _⟩ := hn
            obtain ⟨J3, q3, J4, q4, e3, e4, _⟩ := hk2.In
            exact ⟨J3, q3, J4, q4, e3, e4⟩
          have H7 := Lib.hid (HD.out.later hb7)
          have HN := Lib.hid hn
          have HLT := Lib.hid (And.intro HD.out.lt HD.out.fr.lt)
          clear hn hb7
          refine hK.out _ _ (SK.out _ H7.out.fr) (fun hHeld => ?_)
          clear hK K
          refine norm_ (a' := ?_) ?_ ?_
          rotate_left
          · show Act.put _ (some 61) _ = _
            simp only [Act.put, List.setIfInBounds_toArray, List.set_cons_zero, List.set_cons_succ, i64_w, i32_w]
            rfl
          refine one_ (i := 10) (N := some 62) #[true, true, true, true, true, true, true, true, true, true, true, false, false, false] rfl rfl (by kernel_rfl) (by decide) (fun K hK => ?_)
          refine value_ (w1 := ?_) (v := ?_) (by rfl) rfl ?_ ?_
          rotate_left 2
          · go_simp
            constructor
            · rfl
            · rfl
          refine hK.out _ _ (SK.out _ (H7.out.fr.later (below_new _ _))) (fun hHeld => ?_)
          clear hK K
          refine norm_ (a' := ?_) ?_ ?_
          rotate_left
          · show Act.put _ (some 62) _ = _
            simp only [Act.put, List.setIfInBounds_toArray, List.set_cons_zero, List.set_cons_succ, i64_w, i32_w]
            rfl
          refine one_ (i := 11) (N := some 63) #[true, true, true, true, true, true, true, true, true, true, true, true, false, false] rfl rfl (by kernel_rfl) (by decide) (fun K hK => ?_)
          have hl0 : ((x.f4.take i).map (Fm.chS (wayS n way))).length = i := by simp; omega
          refine step_append_cells (w0 := w) (W := w7) w.heap.size (by rfl) (.tmp 53) (.tmp 62) 29 31 (.agg #[.int .i64 0, .string ⟨#[]⟩, .int .i64 0, .slice none 0 0, .slice none 0 0]) 5 80 rfl Try.underlying29 infoF rfl (by decide) (by omega) v ((x.f4.take i).map (Fm.chS (wayS n way))).length inner [.int .i64 (x.f4[i].chS (wayS n way)).f0, .string (x.f4[i].chS (wayS n way)).f1, .int .i64 (x.f4[i].chS (wayS n way)).f2, .slice J3 (x.f4[i].chS (wayS n way)).f3.length q3, .slice J4 (x.f4[i].chS (wayS n way)).f4.length q4] rfl rfl rfl (by simp [Value.oneCell']) (own_base_ H7.out.o4 (fun b hb => by have := (H7.out.ge b (by simp [obs_mem, hb])).1; omega)) H7.out.fr.b H7.out.fr.b.size (by have := HLN.out; rw [hl0]; omega) ?_
          intro v' w8 ho hb8 hg8 hat8
          obtain ⟨fp', hC8⟩ := H7.out.more HLT.out.1 HLT.out.2.2 HLT.out.2.1 HN.out (own_weaken ho (Nat.zero_le _)) hg8 hat8
          have hf8 := H7.out.fr.grown hg8 (fun c hc => H7.out.ge c (by simp [obs_mem, hc]))
          have hv' : ∃ A c, v' = .slice A (((x.f4.take i).map (Fm.chS (wayS n way))).length + 1) c := by
            rcases ho with ⟨_, ⟨rfl, h0⟩ | ⟨g, cap, cur, rfl, _⟩⟩
            · exact absurd h0 (by omega)
            · exact ⟨_, _, rfl⟩
          rw [hl0] at hv'
          obtain ⟨A', c', rfl⟩ := hv'
          have H8 := Lib.hid hf8
          have HC8 := Lib.hid hC8
          clear ho hb8 hg8 hat8 hf8 hC8
          refine hK.out _ _ (SK.out _ H8.out) (fun hHeld => ?_)
          clear hK K
          refine norm_ (a' := ?_) ?_ ?_
          rotate_left
          · show Act.put _ (some 63) _ = _
            simp only [Act.put, List.setIfInBounds_toArray, List.set_cons_zero, List.set_cons_succ, i64_w, i32_w]
            rfl
          refine pure_ (i := 12) (N := some 64) (v := ?_) (a' := ?_) #[true, true, true, true, true, true, true, true, true, true, true, true, true, false] rfl rfl (by kernel_rfl) (fun _ _ _ h => h) (Or.inl ⟨by rfl, ?_⟩) ?_ ?_
          rotate_left
          · intro w'
            go_simp
            with_reducible rfl
          rotate_left
          · simp only [Act.put, List.setIfInBounds_toArray, List.set_cons_zero, List.set_cons_succ, i64_w, i32_w]
            rfl
          refine last_ (i := 13) (N := none) #[true, true, true, true, true, true, true, true, true, true, true, true, true, true] rfl rfl (by kernel_rfl) (by decide) (fun K hK => ?_)
          have z4 := (fm_cells H8.out.k3).2.2.2.2
          have f4 := (fm_free H8.out.k3).2.2.2.2
          refine skip_ (w1 := ?_) (by rfl) rfl ?_ ?_
          rotate_left
          · go_simp
            rfl
          refine hK.out _ _ ?_
          clear hK K z4 f4
          refine done_ (by kernel_rfl) ?_
          have HX := Lib.hid (show (x.f4.take i).map (Fm.chS (wayS n way)) ++ [x.f4[i].chS (wayS n way)] = (x.f4.take (i + 1)).map (Fm.chS (wayS n way)) from by rw [List.take_succ_eq_append_getElem hlt, List.map_append]; rfl)
          rw [HX.out] at HC8
          try go_wp2
          go_roundg (x.f4.length - (i + 1))
          case measure => omega
          case rel => exact ⟨i + 1, by omega, Nat.le_refl _, by go_num, ⟨⟨_, _, _, HC8.out⟩⟩⟩
        · obtain rfl : i = x.f4.length := by omega
          obtain ⟨v, inner, fp, hC⟩ := HO.out
          rw [List.take_length] at hC
          obtain ⟨A4', c4', e4', -, -⟩ := hC.tr.C hC.o4
          rw [show ((x.f4).map (Fm.chS (wayS n way))).length = x.f4.length from by simp] at e4'
          subst e4'
          obtain ⟨p0, p1, p2, p3, p4⟩ := fm_cells hC.fr.k3
          obtain ⟨y0, y1, y2, y3, y4⟩ := fm_cells hC.fr.k1
          obtain ⟨z0, z1, z2, z3, z4⟩ := fm_cells hC.fr.k2
          obtain ⟨f0, f1, f2, f3, f4⟩ := fm_free hC.fr.k2
          have hn1 : g3 ≠ w.heap.size + 1 := by have := hC.fr.h3; omega
          have hn2 : w.heap.size + 1 ≠ g3 := fun e => hn1 e.symm
          obtain ⟨st1, st2, st3⟩ := st5 hC.fr.k2 (.int .i64 x.f0) (.string x.f1) (.int .i64 x.f2) (.slice D3 sc.length e3) (.slice A4' x.f4.length c4')
          have HNF := hC.newF (st2)
          have HN := Lib.hid HNF
          have HB := Lib.hid (st3 _ _ hC.fr.b (by omega))
          clear hC HO st1 st2 st3 HNF
          go_wp2_with fail
          refine bodyPost_ret (v := .agg #[.int .i64 x.f0, .string x.f1, .int .i64 x.f2, (.slice D3 sc.length e3), .slice A4' x.f4.length c4']) (by simp [results, Try.results121, go_sem, z0, z1, z2, z3, z4]) rfl ?_
          rw [Fm.chS_eq, ← HSC.out]
          exact ⟨_, _, by simp, HN.out, HB.out⟩
end Go.Proofs.Yteonncnhhccgeaa
end
section
namespace Go.Proofs.Yteonncnhhccgeaa
open Go.RowKit Go.Proofs.YteonncnhhccgeaaW.PrintWords Go.Proofs.YteonncnhhccgeaaW.PrintLast Go.Proofs.YteonncnhhccgeaaW.PrintMore
set_option linter.unusedVariables false
set_option linter.unusedSimpArgs false
theorem RetF.T {w : World} {x : Fm} {e : Ending} {w' : World} (h : RetF w x e w') : ∃ v3 v4, e = .returned (.agg #[.int .i64 x.f0, .string x.f1, .int .i64 x.f2, v3, v4]) ∧ tellsNew.T w.heap.size w' x v3 v4 ∧ Below w.heap.size w w' := h
set_option maxHeartbeats 1000000 in
theorem formOr_any (x : Fm) (A3 : Option Addr) (c3 : Nat) (A4 : Option Addr) (c4 : Nat) (w : World) (hin : FmIn w x A3 c3 A4 c4) (ht : x.tot ≤ 1048576) : Calls Try.prog 116 #[.agg #[.int .i64 x.f0, .string x.f1, .int .i64 x.f2, .slice A3 x.f3.length c3, .slice A4 x.f4.length c4]] w (RetT tellsNew w (orN x)) := by
  have HI := Lib.hid hin
  have HT0 := Lib.hid ht
  clear hin ht
  go_enter Try.func116, Try.ntmps116
  go_wp2_with fail
  refine (implValid_any x A3 c3 A4 c4 _ (HI.out.below (below_step (below_new _ _) (below_new _ _))) HT0.out).mono ?_
  rintro e w1 ⟨rfl, hb⟩
  obtain ⟨k0, k1, b1⟩ := two_new hb
  have K0 := Lib.hid k0
  have K1 := Lib.hid k1
  have B1 := Lib.hid b1
  clear hb k0 k1 b1
  by_cases hx : FmOk x
  · rw [← pB_yes hx]
    have HX := Lib.hid hx
    clear hx
    obtain ⟨p0, p1, p2, p3, p4⟩ := fm_cells K0.out
    go_wp2_with fail
    clear p0 p1 p2 p3 p4
    refine (copyForm_any x A3 c3 A4 c4 _ (HI.out.below B1.out) (by have := HT0.out; omega)).mono ?_
    intro e w2 hr
    obtain ⟨v3, v4, rfl, hT, hb2⟩ := hr.T
    obtain ⟨D3, e3, D4, e4, rfl, rfl⟩ := tellsNew.form hT
    obtain ⟨q0, q1, q2, q3, q4⟩ := fm_cells (blk_below K1.out hb2)
    obtain ⟨f0, f1, f2, f3, f4⟩ := fm_free (blk_below K1.out hb2)
    have HT := Lib.hid hT
    have HB := Lib.hid (below_step B1.out hb2)
    have HL := Lib.hid (blk_lt K1.out)
    clear hT hb2 hr
    go_wp2_with fail
    refine bodyPost_ret (v := .tuple #[.agg #[.int .i64 x.f0, .string x.f1, .int .i64 x.f2, .slice D3 x.f3.length e3, .slice D4 x.f4.length e4], .bool true]) (by simp [results, Try.results116, go_sem, q0, q1, q2, q3, q4, f0, f1, f2, f3, f4]) rfl ?_
    rw [orN_yes HX.out]
    refine ⟨_, _, rfl, tellsNew.low B1.out.size (tellsNew.move HT.out (fun b hb => ?_)), ?_⟩
    · have := HL.out
      repeat rw [Below.heap_setCell _ _ _ b (by show b ≠ w.heap.size + 1; omega)]
    · repeat (refine below_set ?_ (by omega))
      exact HB.out
  · rw [← pB_no hx]
    have HX := Lib.hid hx
    clear hx
    obtain ⟨q0, q1, q2, q3, q4⟩ := fm_cells K1.out
    obtain ⟨f0, f1, f2, f3, f4⟩ := fm_free K1.out
    have HB9 := Lib.hid B1.out
    go_wp2_with fail
    refine bodyPost_ret (v := .tuple #[.agg #[.int .i64 0, .string ⟨#[]⟩, .int .i64 0, .slice none 0 0, .slice none 0 0], .bool false]) (by simp [results, Try.results116, go_sem, q0, q1, q2, q3, q4, f0, f1, f2, f3, f4]) rfl ?_
    rw [orN_no HX.out]
    refine ⟨_, _, rfl, ⟨[], trz _, by simp, by simp⟩, ?_⟩
    repeat (refine below_set ?_ (by omega))
    exact HB9.out
set_option maxHeartbeats 2000000 in
theorem rescoped_new (fv : Fv) (g : List Int → List Int) (n : Int) (x : Fm) (A3 : Option Addr) (c3 : Nat) (A4 : Option Addr) (c4 : Nat) (w : World) (hin : FmIn w x A3 c3 A4 c4) (ht : x.tot ≤ 1048576) (hw : Below fv.w0.heap.size fv.w0 w) (hg : ∀ l, ScOk l → fv.f l = some (g l) ∧ (g l).length ≤ 1000) :
    Calls Try.prog 85 #[.agg #[.int .i64 x.f0, .string x.f1, .int .i64 x.f2, .slice A3 x.f3.length c3, .slice A4 x.f4.length c4], .int .i64 n, .func (.func fv.g) #[] fv.lb] w (RetT tellsNew w (reS g n x)) := by
  have HI := Lib.hid hin
  have HT0 := Lib.hid ht
  have HW := Lib.hid hw
  have HG := Lib.hid hg
  clear hin ht hw hg
  go_enter Try.func85, Try.ntmps85
  go_wp2_with fail
  refine (implValid_any x A3 c3 A4 c4 _ (HI.out.below (below_step (below_new _ _) (below_new _ _))) HT0.out).mono ?_
  rintro e w1 ⟨rfl, hb⟩
  obtain ⟨k0, k1, b1⟩ := two_new hb
  have K0 := Lib.hid k0
  have K1 := Lib.hid k1
  have B1 := Lib.hid b1
  clear hb k0 k1 b1
  by_cases hx : FmOk x
  · rw [← pB_yes hx]
    have HX := Lib.hid hx
    clear hx
    go_wp2_with fail
    refine (within_any n 1 99 w1).mono ?_
    rintro e w2 ⟨rfl, hb2⟩
    have K02 := Lib.hid (blk_below K0.out hb2)
    have K12 := Lib.hid (blk_below K1.out hb2)
    have B2 := Lib.hid (below_step B1.out hb2)
    clear hb2
    by_cases hn : 1 ≤ n ∧ n ≤ 99
    · rw [decide_eq_true hn]
      have HN9 := Lib.hid hn
      clear hn
      obtain ⟨p0, p1, p2, p3, p4⟩ := fm_cells K02.out
      go_wp2_with fail
      clear p0 p1 p2 p3 p4
      have hs := fmOk_sc HX.out
      refine (dressed_any fv g x (hs.imp (fun y hy => (HG.out _ hy).1)) A3 c3 A4 c4 w2 (HI.out.below B2.out) (by have := HT0.out; omega) (below_step HW.out B2.out)).mono ?_
      intro e w3 hr
      obtain ⟨v3, v4, rfl, hT, hb3⟩ := hr.T
      obtain ⟨D3, e3, D4, e4, rfl, rfl⟩ := tellsNew.form hT
      have h1 := tot_chS HX.out.1 g 1000 (hs.imp (fun y hy => (HG.out _ hy).2))
      have h2 : (13 + 1000) * x.size ≤ 1013 * 400 := Nat.mul_le_mul (by omega) HX.out.2
      have hin3 : FmIn w3 (x.chS g) D3 e3 D4 e4 := by
        obtain ⟨fp, htr, _, _⟩ := hT
        obtain ⟨G3, m3, G4, m4, q1, q2, hin⟩ := htr.In
        injection q1 with a1 _ a2
        injection q2 with a3 _ a4
        subst a1 a2 a3 a4
        exact hin
      have K13 := Lib.hid (blk_below K12.out hb3)
      have B3 := Lib.hid (below_step B2.out hb3)
      have HF := Lib.hid (formOr_any (x.chS g) D3 e3 D4 e4 w3 hin3 (by omega))
      have HL := Lib.hid (blk_lt K12.out)
      have HLW := Lib.hid (show w2.heap.size ≤ w3.heap.size from hb3.size)
      clear hs h1 h2 hin3 hT hb3 hr
      go_wp2_with fail
      refine HF.out.mono ?_
      rintro e w4 ⟨v3, v4, rfl, hT, hb4⟩
      obtain ⟨E3, k3, E4, k4, rfl, rfl⟩ := tellsNew.form hT
      obtain ⟨q0, q1, q2, q3, q4⟩ := fm_cells (blk_below K13.out hb4)
      obtain ⟨f0, f1, f2, f3, f4⟩ := fm_free (blk_below K13.out hb4)
      have HT := Lib.hid hT
      have HB := Lib.hid (below_step B3.out hb4)
      clear hT hb4
      go_wp2_with fail
      refine bodyPost_ret (v := .tuple #[.agg #[.int .i64 (orN (x.chS g)).1.f0, .string (orN (x.chS g)).1.f1, .int .i64 (orN (x.chS g)).1.f2, .slice E3 (orN (x.chS g)).1.f3.length k3, .slice E4 (orN (x.chS g)).1.f4.length k4], .bool (orN (x.chS g)).2]) (by simp [results, Try.results85, go_sem, q0, q1, q2, q3, q4, f0, f1, f2, f3, f4]) rfl ?_
      rw [reS_in HX.out HN9.out.1 HN9.out.2]
      refine ⟨_, _, rfl, tellsNew.low B3.out.size (tellsNew.move HT.out (fun b hb => ?_)), ?_⟩
      · have := HL.out
        have := HLW.out
        repeat rw [Below.heap_setCell _ _ _ b (by show b ≠ w.heap.size + 1; omega)]
      · repeat (refine below_set ?_ (by omega))
        exact HB.out
    · rw [decide_eq_false hn]
      have HN9 := Lib.hid hn
      clear hn
      obtain ⟨q0, q1, q2, q3, q4⟩ := fm_cells K12.out
      obtain ⟨f0, f1, f2, f3, f4⟩ := fm_free K12.out
      have HB9 := Lib.hid B2.out
      go_wp2_with fail
      refine bodyPost_ret (v := .tuple #[.agg #[.int .i64 0, .string ⟨#[]⟩, .int .i64 0, .slice none 0 0, .slice none 0 0], .bool false]) (by simp [results, Try.results85, go_sem, q0, q1, q2, q3, q4, f0, f1, f2, f3, f4]) rfl ?_
      rw [reS_out (fun h => HN9.out h.2)]
      refine ⟨_, _, rfl, ⟨[], trz _, by simp, by simp⟩, ?_⟩
      repeat (refine below_set ?_ (by omega))
      exact HB9.out
  · rw [← pB_no hx]
    have HX := Lib.hid hx
    clear hx
    obtain ⟨q0, q1, q2, q3, q4⟩ := fm_cells K1.out
    obtain ⟨f0, f1, f2, f3, f4⟩ := fm_free K1.out
    have HB9 := Lib.hid B1.out
    go_wp2_with fail
    refine bodyPost_ret (v := .tuple #[.agg #[.int .i64 0, .string ⟨#[]⟩, .int .i64 0, .slice none 0 0, .slice none 0 0], .bool false]) (by simp [results, Try.results85, go_sem, q0, q1, q2, q3, q4, f0, f1, f2, f3, f4]) rfl ?_
    rw [reS_out (fun h => HX.out h.1)]
    refine ⟨_, _, rfl, ⟨[], trz _, by simp, by simp⟩, ?_⟩
    repeat (refine below_set ?_ (by omega))
    exact HB9.out
set_option maxHeartbeats 2000000 in
theorem l2Done_any (n way : Int) (x : Fm) (A3 : Option Addr) (c3 : Nat) (A4 : Option Addr) (c4 : Nat) (w : World) (hin : FmIn w x A3 c3 A4 c4) (ht : x.tot ≤ 1000000) :
    Calls Try.prog 88 #[.agg #[.int .i64 x.f0, .string x.f1, .int .i64 x.f2, .slice A3 x.f3.length c3, .slice A4 x.f4.length c4], .int .i64 n, .int .i64 way] w (RetT tellsNew w (reS (wayS n way) n x)) := by
  have HI := Lib.hid hin
  have HT0 := Lib.hid ht
  clear hin ht
  go_enter Try.func88, Try.ntmps88
  go_wp2_with fail
  refine (specValid_any x A3 c3 A4 c4 _ (HI.out.below (below_step (below_new _ _) (below_new _ _))) (by have := HT0.out; omega)).mono ?_
  rintro e w1 ⟨rfl, hb⟩
  obtain ⟨k0, k1, b1⟩ := two_new hb
  have K0 := Lib.hid k0
  have K1 := Lib.hid k1
  have B1 := Lib.hid b1
  clear hb k0 k1 b1
  by_cases hx : FmOk x
  · rw [← pB_yes hx]
    have HX := Lib.hid hx
    clear hx
    by_cases h1 : n < 1
    · have t1 : decide (n < 1) = true := decide_eq_true h1
      have HN9 := Lib.hid (show ¬ (FmOk x ∧ 1 ≤ n ∧ n ≤ 99) from fun h => by omega)
      clear h1
      obtain ⟨q0, q1, q2, q3, q4⟩ := fm_cells K1.out
      obtain ⟨f0, f1, f2, f3, f4⟩ := fm_free K1.out
      have HB9 := Lib.hid B1.out
      go_wp2_with fail
      refine bodyPost_ret (v := .tuple #[.agg #[.int .i64 0, .string ⟨#[]⟩, .int .i64 0, .slice none 0 0, .slice none 0 0], .bool false]) (by simp [results, Try.results88, go_sem, q0, q1, q2, q3, q4, f0, f1, f2, f3, f4]) rfl ?_
      rw [reS_out HN9.out]
      refine ⟨_, _, rfl, ⟨[], trz _, by simp, by simp⟩, ?_⟩
      repeat (refine below_set ?_ (by omega))
      exact HB9.out
    have t1 : decide (n < 1) = false := decide_eq_false h1
    by_cases h2 : n > 99
    · have t2 : decide (n > 99) = true := decide_eq_true h2
      have t2' : decide (99 < n) = true := decide_eq_true h2
      have HN9 := Lib.hid (show ¬ (FmOk x ∧ 1 ≤ n ∧ n ≤ 99) from fun h => by omega)
      clear h1 h2
      obtain ⟨q0, q1, q2, q3, q4⟩ := fm_cells K1.out
      obtain ⟨f0, f1, f2, f3, f4⟩ := fm_free K1.out
      have HB9 := Lib.hid B1.out
      go_wp2_with fail
      refine bodyPost_ret (v := .tuple #[.agg #[.int .i64 0, .string ⟨#[]⟩, .int .i64 0, .slice none 0 0, .slice none 0 0], .bool false]) (by simp [results, Try.results88, go_sem, q0, q1, q2, q3, q4, f0, f1, f2, f3, f4]) rfl ?_
      rw [reS_out HN9.out]
      refine ⟨_, _, rfl, ⟨[], trz _, by simp, by simp⟩, ?_⟩
      repeat (refine below_set ?_ (by omega))
      exact HB9.out
    have t2 : decide (n > 99) = false := decide_eq_false h2
    have t2' : decide (99 < n) = false := decide_eq_false h2
    have HRE := Lib.hid (reS_in (g := wayS n way) HX.out (show 1 ≤ n by omega) (show n ≤ 99 by omega))
    clear h1 h2
    obtain ⟨p0, p1, p2, p3, p4⟩ := fm_cells K0.out
    go_wp2_with fail
    clear p0 p1 p2 p3 p4
    refine (l2Change_any n way x ⟨40, HX.out.1⟩ A3 c3 A4 c4 w1 (HI.out.below B1.out) (by have := HT0.out; omega)).mono ?_
    intro e w3 hr
    obtain ⟨v3, v4, rfl, hT, hb3⟩ := hr.T
    obtain ⟨D3, e3, D4, e4, rfl, rfl⟩ := tellsNew.form hT
    have hs := fmOk_sc HX.out
    have z1 := tot_chS HX.out.1 (wayS n way) 1000 (hs.imp (fun y hy => by have := wayS_len n way y.f3; have := hy.1; omega))
    have z2 : (13 + 1000) * x.size ≤ 1013 * 400 := Nat.mul_le_mul (by omega) HX.out.2
    have hin3 : FmIn w3 (x.chS (wayS n way)) D3 e3 D4 e4 := by
      obtain ⟨fp, htr, _, _⟩ := hT
      obtain ⟨G3, m3, G4, m4, q1, q2, hin⟩ := htr.In
      injection q1 with a1 _ a2
      injection q2 with a3 _ a4
      subst a1 a2 a3 a4
      exact hin
    have K13 := Lib.hid (blk_below K1.out hb3)
    have B3 := Lib.hid (below_step B1.out hb3)
    have HF := Lib.hid (fun W hb => specValid_any (x.chS (wayS n way)) D3 e3 D4 e4 W (hin3.below hb) (by omega))
    have HL := Lib.hid (blk_lt K1.out)
    have HLW := Lib.hid (show w1.heap.size ≤ w3.heap.size from hb3.size)
    have HT := Lib.hid hT
    clear hs z1 z2 hin3 hT hb3 hr
    go_wp2_with fail
    refine (HF.out _ (below_new _ _)).mono ?_
    rintro e w4 ⟨rfl, hb4⟩
    obtain ⟨k8, b4⟩ := one_new hb4
    have K8 := Lib.hid k8
    have K14 := Lib.hid (blk_below K13.out b4)
    have B4 := Lib.hid (below_step B3.out b4)
    have HT4 := Lib.hid (show NewF w1.heap.size w4 (x.chS (wayS n way)) (.slice D3 (x.chS (wayS n way)).f3.length e3) (.slice D4 (x.chS (wayS n way)).f4.length e4) from by
      obtain ⟨fp, htr, hnd, hge⟩ := HT.out
      exact ⟨fp, htr.later b4, hnd, hge⟩)
    have HL3 := Lib.hid (blk_lt k8)
    clear hb4 k8 b4
    by_cases hy : FmOk (x.chS (wayS n way))
    · rw [← pB_yes hy]
      have HY := Lib.hid hy
      clear hy
      obtain ⟨p0, p1, p2, p3, p4⟩ := fm_cells K8.out
      obtain ⟨q0, q1, q2, q3, q4⟩ := fm_cells K14.out
      obtain ⟨f0, f1, f2, f3, f4⟩ := fm_free K14.out
      have hn1 : w3.heap.size ≠ w.heap.size + 1 := by have := HL.out; have := HLW.out; omega
      have hn2 : w.heap.size + 1 ≠ w3.heap.size := fun e => hn1 e.symm
      go_wp2_with fail
      refine bodyPost_ret (v := .tuple #[.agg #[.int .i64 (x.chS (wayS n way)).f0, .string (x.chS (wayS n way)).f1, .int .i64 (x.chS (wayS n way)).f2, .slice D3 (x.chS (wayS n way)).f3.length e3, .slice D4 (x.chS (wayS n way)).f4.length e4], .bool true]) (by simp [results, Try.results88, go_sem, q0, q1, q2, q3, q4, f0, f1, f2, f3, f4]) rfl ?_
      rw [HRE.out, orN_yes HY.out]
      refine ⟨_, _, rfl, tellsNew.low B1.out.size (tellsNew.move HT4.out (fun b hb => ?_)), ?_⟩
      · have := HL.out
        repeat rw [Below.heap_setCell _ _ _ b (by show b ≠ w.heap.size + 1; omega)]
      · repeat (refine below_set ?_ (by omega))
        exact B4.out
    · rw [← pB_no hy]
      have HY := Lib.hid hy
      clear hy
      obtain ⟨q0, q1, q2, q3, q4⟩ := fm_cells K14.out
      obtain ⟨f0, f1, f2, f3, f4⟩ := fm_free K14.out
      have HB9 := Lib.hid B4.out
      go_wp2_with fail
      refine bodyPost_ret (v := .tuple #[.agg #[.int .i64 0, .string ⟨#[]⟩, .int .i64 0, .slice none 0 0, .slice none 0 0], .bool false]) (by simp [results, Try.results88, go_sem, q0, q1, q2, q3, q4, f0, f1, f2, f3, f4]) rfl ?_
      rw [HRE.out, orN_no HY.out]
      refine ⟨_, _, rfl, ⟨[], trz _, by simp, by simp⟩, ?_⟩
      repeat (refine below_set ?_ (by omega))
      exact HB9.out
  · rw [← pB_no hx]
    have HX := Lib.hid hx
    clear hx
    obtain ⟨q0, q1, q2, q3, q4⟩ := fm_cells K1.out
    obtain ⟨f0, f1, f2, f3, f4⟩ := fm_free K1.out
    have HB9 := Lib.hid B1.out
    go_wp2_with fail
    refine bodyPost_ret (v := .tuple #[.agg #[.int .i64 0, .string ⟨#[]⟩, .int .i64 0, .slice none 0 0, .slice none 0 0], .bool false]) (by simp [results, Try.results88, go_sem, q0, q1, q2, q3, q4, f0, f1, f2, f3, f4]) rfl ?_
    rw [reS_out (fun h => HX.out h.1)]
    refine ⟨_, _, rfl, ⟨[], trz _, by simp, by simp⟩, ?_⟩
    repeat (refine below_set ?_ (by omega))
    exact HB9.out
end Go.Proofs.Yteonncnhhccgeaa
end
section
namespace Go.Proofs.Yteonncnhhccgeaa
open Go.RowKit Go.Proofs.YteonncnhhccgeaaW.PrintWords Go.Proofs.YteonncnhhccgeaaW.PrintLast Go.Proofs.YteonncnhhccgeaaW.PrintMore
set_option linter.unusedVariables false
set_option linter.unusedSimpArgs false
@[reducible] def fmV (x : Fm) (A3 : Option Addr) (c3 : Nat) (A4 : Option Addr) (c4 : Nat) : Array Value := #[.int .i64 x.f0, .string x.f1, .int .i64 x.f2, .slice A3 x.f3.length c3, .slice A4 x.f4.length c4]
/-- A form is handed back. -/
def GetF (w : World) (x : Fm) (e : Ending) (w' : World) : Prop := ∃ A3 c3 A4 c4, e = .returned (.agg #[.int .i64 x.f0, .string x.f1, .int .i64 x.f2, .slice A3 x.f3.length c3, .slice A4 x.f4.length c4]) ∧ FmIn w' x A3 c3 A4 c4 ∧ Below w.heap.size w w'
/-- A form and another value are handed back. -/
def GetFV (w : World) (x : Fm) (v : Value) (e : Ending) (w' : World) : Prop := ∃ A3 c3 A4 c4, e = .returned (.tuple #[.agg #[.int .i64 x.f0, .string x.f1, .int .i64 x.f2, .slice A3 x.f3.length c3, .slice A4 x.f4.length c4], v]) ∧ FmIn w' x A3 c3 A4 c4 ∧ Below w.heap.size w w'
theorem FmIn.ofR {w : World} {x : Fm} {b b' : Nat} {ok ok' : Nat → Prop} {v3 v4 : Value} (h3 : kI.R 3 w b ok v3 x.f3) (h4 : kF.R 31 w b' ok' v4 x.f4) : ∃ A3 c3 A4 c4, v3 = .slice A3 x.f3.length c3 ∧ v4 = .slice A4 x.f4.length c4 ∧ FmIn w x A3 c3 A4 c4 := by
  obtain ⟨A3, c3, rfl, l3, g3⟩ := Kd.R_reads h3
  obtain ⟨A4, c4, rfl, l4, g4⟩ := Kd.R_reads h4
  exact ⟨A3, c3, A4, c4, rfl, rfl, l3, g3, l4, g4⟩
end Go.Proofs.Yteonncnhhccgeaa
end
section
namespace Go.Proofs.Yteonncnhhccgeaa
open Go.RowKit Go.Proofs.YteonncnhhccgeaaW.PrintWords Go.Proofs.YteonncnhhccgeaaW.PrintLast Go.Proofs.YteonncnhhccgeaaW.PrintMore
set_option linter.unusedVariables false
set_option linter.unusedSimpArgs false
theorem NewF.In {B : Nat} {w : World} {x : Fm} {v3 v4 : Value} (h : NewF B w x v3 v4) : ∃ A3 c3 A4 c4, v3 = .slice A3 x.f3.length c3 ∧ v4 = .slice A4 x.f4.length c4 ∧ FmIn w x A3 c3 A4 c4 := by
  obtain ⟨fp, ht, _, _⟩ := h
  exact ht.In
theorem RetT.getFV {w : World} {p : Fm × Bool} {e : Ending} {w' : World} (h : RetT tellsNew w p e w') : GetFV w p.1 (.bool p.2) e w' := by
  obtain ⟨v3, v4, rfl, hn, hb⟩ := h
  obtain ⟨A3, c3, A4, c4, rfl, rfl, hi⟩ := NewF.In hn
  exact ⟨A3, c3, A4, c4, rfl, hi, hb⟩
theorem putOk (n : Int) (l : List Int) (h : ScOk l) : gIf (l.Pairwise (· < ·) ∧ l.length ≤ 1000000) (putS l n) = some (putS l n) ∧ (putS l n).length ≤ 1000 := by
  obtain ⟨h1, h2, _⟩ := scOk_iff.1 h
  have := len_putS_le l n
  exact ⟨gIf_yes ⟨h2, by omega⟩ _, by omega⟩
theorem implAdd_new (n : Int) (x : Fm) (A3 : Option Addr) (c3 : Nat) (A4 : Option Addr) (c4 : Nat) (w : World) (hin : FmIn w x A3 c3 A4 c4) (ht : x.tot ≤ 1048576) : Calls Try.prog 31 #[.agg #[.int .i64 x.f0, .string x.f1, .int .i64 x.f2, .slice A3 x.f3.length c3, .slice A4 x.f4.length c4], .int .i64 n] w (RetT tellsNew w (reS (fun l => putS l n) n x)) :=
  AddScope_walk tellsNew x A3 c3 A4 c4 n _ w fun W hb hc => rescoped_new (fvAddScope n (w.heap.size + 1) W hc) _ n x A3 c3 A4 c4 W (hin.below hb) ht (Below.refl _ _) (putOk n)
set_option maxHeartbeats 1000000 in
theorem specAdd_new (n : Int) (x : Fm) (A3 : Option Addr) (c3 : Nat) (A4 : Option Addr) (c4 : Nat) (w : World) (hin : FmIn w x A3 c3 A4 c4) (ht : x.tot ≤ 1000000) : Calls Try.prog 32 #[.agg #[.int .i64 x.f0, .string x.f1, .int .i64 x.f2, .slice A3 x.f3.length c3, .slice A4 x.f4.length c4], .int .i64 n] w (RetT tellsNew w (reS (fun l => putS l n) n x)) := by
  have HC := Lib.hid (fun W hb => l2Done_any n 0 x A3 c3 A4 c4 W (hin.below hb) ht)
  rw [show (wayS n 0) = (fun l => putS l n) from rfl] at HC
  clear hin ht
  generalize reS (fun l => putS l n) n x = r at HC ⊢
  go_enter Try.func32, Try.ntmps32
  go_wp2_with fail
  refine (HC.out _ (below_step (below_new _ _) (below_new _ _))).mono ?_
  rintro e w1 ⟨v3, v4, rfl, hT, hb1⟩
  obtain ⟨D3, e3, D4, e4, rfl, rfl⟩ := tellsNew.form hT
  obtain ⟨k0, k1, b1⟩ := two_new hb1
  obtain ⟨q0, q1, q2, q3, q4⟩ := fm_cells k1
  obtain ⟨f0, f1, f2, f3, f4⟩ := fm_free k1
  have HT := Lib.hid hT
  have HB := Lib.hid b1
  clear hT hb1 b1 k0 k1
  go_wp2_with fail
  refine bodyPost_ret (v := .tuple #[.agg #[.int .i64 (r).1.f0, .string (r).1.f1, .int .i64 (r).1.f2, .slice D3 (r).1.f3.length e3, .slice D4 (r).1.f4.length e4], .bool (r).2]) (by simp [results, Try.results32, go_sem, q0, q1, q2, q3, q4, f0, f1, f2, f3, f4]) rfl ⟨_, _, rfl, tellsNew.low (by simp; omega) (tellsNew.move HT.out (fun b hb => ?_)), ?_⟩
  · simp at hb
    repeat rw [Below.heap_setCell _ _ _ b (by simp; omega)]
  · repeat (refine below_set ?_ (by omega))
    exact HB.out
theorem implDrop_new (n : Int) (x : Fm) (A3 : Option Addr) (c3 : Nat) (A4 : Option Addr) (c4 : Nat) (w : World) (hin : FmIn w x A3 c3 A4 c4) (ht : x.tot ≤ 1048576) : Calls Try.prog 43 #[.agg #[.int .i64 x.f0, .string x.f1, .int .i64 x.f2, .slice A3 x.f3.length c3, .slice A4 x.f4.length c4], .int .i64 n] w (RetT tellsNew w (reS (fun l => takeO l n) n x)) :=
  DropScope_walk tellsNew x A3 c3 A4 c4 n _ w fun W hb hc => rescoped_new (fvDropScope n (w.heap.size + 1) W hc) _ n x A3 c3 A4 c4 W (hin.below hb) ht (Below.refl _ _) (fun l hl => ⟨rfl, by have := len_takeO_le l n; have := hl.1; omega⟩)
set_option maxHeartbeats 1000000 in
theorem specDrop_new (n : Int) (x : Fm) (A3 : Option Addr) (c3 : Nat) (A4 : Option Addr) (c4 : Nat) (w : World) (hin : FmIn w x A3 c3 A4 c4) (ht : x.tot ≤ 1000000) : Calls Try.prog 44 #[.agg #[.int .i64 x.f0, .string x.f1, .int .i64 x.f2, .slice A3 x.f3.length c3, .slice A4 x.f4.length c4], .int .i64 n] w (RetT tellsNew w (reS (fun l => takeO l n) n x)) := by
  have HC := Lib.hid (fun W hb => l2Done_any n 2 x A3 c3 A4 c4 W (hin.below hb) ht)
  rw [show (wayS n 2) = (fun l => takeO l n) from rfl] at HC
  clear hin ht
  generalize reS (fun l => takeO l n) n x = r at HC ⊢
  go_enter Try.func44, Try.ntmps44
  go_wp2_with fail
  refine (HC.out _ (below_step (below_new _ _) (below_new _ _))).mono ?_
  rintro e w1 ⟨v3, v4, rfl, hT, hb1⟩
  obtain ⟨D3, e3, D4, e4, rfl, rfl⟩ := tellsNew.form hT
  obtain ⟨k0, k1, b1⟩ := two_new hb1
  obtain ⟨q0, q1, q2, q3, q4⟩ := fm_cells k1
  obtain ⟨f0, f1, f2, f3, f4⟩ := fm_free k1
  have HT := Lib.hid hT
  have HB := Lib.hid b1
  clear hT hb1 b1 k0 k1
  go_wp2_with fail
  refine bodyPost_ret (v := .tuple #[.agg #[.int .i64 (r).1.f0, .string (r).1.f1, .int .i64 (r).1.f2, .slice D3 (r).1.f3.length e3, .slice D4 (r).1.f4.length e4], .bool (r).2]) (by simp [results, Try.results44, go_sem, q0, q1, q2, q3, q4, f0, f1, f2, f3, f4]) rfl ⟨_, _, rfl, tellsNew.low (by simp; omega) (tellsNew.move HT.out (fun b hb => ?_)), ?_⟩
  · simp at hb
    repeat rw [Below.heap_setCell _ _ _ b (by simp; omega)]
  · repeat (refine below_set ?_ (by omega))
    exact HB.out
end Go.Proofs.Yteonncnhhccgeaa
end
section
namespace Go.Proofs.Yteonncnhhccgeaa.Q
open Go.RowKit Go.Proofs.YteonncnhhccgeaaW.PrintWords Go.Proofs.YteonncnhhccgeaaW.PrintLast Go.Proofs.YteonncnhhccgeaaW.PrintMore
attribute [local go_sem] max2_int min2_int max_two min_two max_three min_three max_four min_four   -- for this text's walks alone
set_option linter.unusedVariables false
set_option linter.unusedSimpArgs false

/-- A state of type 104 at block g of W; what its slices lead to came in by w0. -/
def IsS104 (w0 W : World) (g : Nat) (f0 : List Int) (f1 : Int) : Prop := ∃ A0 c0, W.heap[g]? = some (.cells #[.slice A0 f0.length c0, .int .i64 f1] 104 (0, 0)) ∧ w0.heap.size ≤ g ∧ Kd.C (Kd.int .u8) w0 A0 f0.length f0
theorem IsS104.grown {w0 W : World} {g : Nat} {f0 : List Int} {f1 : Int} {W1 : World} {row : Option Nat} (h : IsS104 w0 W g f0 f1) (hw : W.grownBy W1 row) (hne : some g ≠ row) : IsS104 w0 W1 g f0 f1 := by
  obtain ⟨A0, c0, hb, hg, hr0⟩ := h
  exact ⟨A0, c0, blk_grown hb hw hne, hg, hr0⟩
theorem IsS104.fresh {w0 W : World} {g : Nat} {f0 : List Int} {f1 : Int} (h : IsS104 w0 W g f0 f1) : ∀ k, W.heap.size ≤ k → k ≠ g := by
  obtain ⟨A0, c0, hb, hg, hr0⟩ := h
  exact Kd.freshB hb
theorem IsS104.kept {w0 W : World} {g : Nat} {f0 : List Int} {f1 : Int} {W1 : World} {S : Nat → Prop} (h : IsS104 w0 W g f0 f1) (hk : Kept W W1 S) (hne : ¬ S g) : IsS104 w0 W1 g f0 f1 := by
  obtain ⟨A0, c0, hb, hg, hr0⟩ := h
  exact ⟨A0, c0, blk_kept hb hk hne, hg, hr0⟩
theorem IsS104.below {w0 W : World} {g : Nat} {f0 : List Int} {f1 : Int} {W1 : World} (h : IsS104 w0 W g f0 f1) (hw : Below W.heap.size W W1) : IsS104 w0 W1 g f0 f1 := h.grown (grown_of_below hw none) (by simp)
theorem IsS104.alloc {w0 W : World} {g : Nat} {f0 : List Int} {f1 : Int} (h : IsS104 w0 W g f0 f1) (o : Obj) : IsS104 w0 (W.alloc o) g f0 f1 := h.below (below_alloc (Below.refl _ _) o)
theorem IsS104.drewN {w0 W : World} {g : Nat} {f0 : List Int} {f1 : Int} (h : IsS104 w0 W g f0 f1) (m : Nat) : IsS104 w0 (W.drewN m) g f0 f1 := h
theorem IsS104.drew {w0 W : World} {g : Nat} {f0 : List Int} {f1 : Int} (h : IsS104 w0 W g f0 f1) : IsS104 w0 W.drew g f0 f1 := h
theorem IsS104.at_ {w0 W : World} {g : Nat} {f0 : List Int} {f1 : Int} {w' : World} {m : Nat} (hq : W.drewN m = w') (h : IsS104 w0 W g f0 f1) : IsS104 w0 w' g f0 f1 := by subst hq; exact IsS104.drewN h m
theorem IsS104.apart {w0 W : World} {g : Nat} {f0 : List Int} {f1 : Int} {α : Type} {d : Kd α} {e : Nat} {base : Nat} {ok : Nat → Prop} {v : Value} {xs : List α} (h : IsS104 w0 W g f0 f1) (ho : d.R e W base ok v xs) (ht : ∀ q, q ∈ e :: d.E → q ≠ 104) : d.R e W base (fun k => ok k ∧ k ≠ g) v xs := by
  obtain ⟨A0, c0, hb, hg, hr0⟩ := h
  exact Kd.R_types ho hb ht
theorem IsS104.own_ne {w0 W : World} {g : Nat} {f0 : List Int} {f1 : Int} {α : Type} {d : Kd α} {e : Nat} {base : Nat} {ok : Nat → Prop} {v : Value} {xs : List α} (h : IsS104 w0 W g f0 f1) (ho : d.R e W base ok v xs) (ht : e ≠ 104) : some g ≠ v.ownBlock := by
  obtain ⟨A0, c0, hb, hg, hr0⟩ := h
  exact Kd.R_ne ho hb ht
theorem IsS104.lt {w0 W : World} {g : Nat} {f0 : List Int} {f1 : Int} (h : IsS104 w0 W g f0 f1) : g < W.heap.size := by
  obtain ⟨A0, c0, hb, hg, hr0⟩ := h
  exact blk_lt hb
theorem IsS104.ge {w0 W : World} {g : Nat} {f0 : List Int} {f1 : Int} (h : IsS104 w0 W g f0 f1) : w0.heap.size ≤ g := by
  obtain ⟨A0, c0, hb, hg, hr0⟩ := h
  exact hg
theorem IsS104.ne_blk {w0 W : World} {g : Nat} {f0 : List Int} {f1 : Int} {a : Nat} {cs : Array Value} {t : TypeId} {fr : Nat × Nat} (h : IsS104 w0 W g f0 f1) (hb2 : W.heap[a]? = some (.cells cs t fr)) (ht : t ≠ 104) : g ≠ a := by
  obtain ⟨A0, c0, hb, hg, hr0⟩ := h
  rintro rfl
  rw [hb] at hb2
  injection hb2 with hb2
  injection hb2 with _ ht2
  exact ht ht2.symm
theorem IsS104.far {w0 W : World} {g : Nat} {f0 : List Int} {f1 : Int} {p : Addr} (h : IsS104 w0 W g f0 f1) (hne : g ≠ p.block) (u : Value) : IsS104 w0 (W.setCell p u) g f0 f1 := by
  obtain ⟨A0, c0, hb, hg, hr0⟩ := h
  exact ⟨A0, c0, blk_far hb hne u, hg, hr0⟩
theorem cellS104_0 {W : World} {g : Nat} {A0 : Option Addr} {c0 : Nat} {f0 : List Int} {f1 : Int} (h : W.heap[g]? = some (.cells #[.slice A0 f0.length c0, .int .i64 f1] 104 (0, 0))) : W.cell? ⟨g, 0, none⟩ = some (.slice A0 f0.length c0) := (blk_cell h 0).trans rfl
theorem cellS104_1 {W : World} {g : Nat} {A0 : Option Addr} {c0 : Nat} {f0 : List Int} {f1 : Int} (h : W.heap[g]? = some (.cells #[.slice A0 f0.length c0, .int .i64 f1] 104 (0, 0))) : W.cell? ⟨g, 1, none⟩ = some (.int .i64 f1) := (blk_cell h 1).trans rfl
theorem IsS104.set_1 {w0 W : World} {g : Nat} {f0 : List Int} {f1 : Int} (h : IsS104 w0 W g f0 f1) (x : Int) : IsS104 w0 (W.setCell ⟨g, 1, none⟩ (.int .i64 x)) g f0 x := by
  obtain ⟨A0, c0, hb, hg, hr0⟩ := h
  exact ⟨A0, c0, by simpa using blk_set hb 1 (.int .i64 x), hg, hr0⟩
theorem IsS104.new (w0 W : World) (A0 : Option Addr) (c0 : Nat) (f0 : List Int) (f1 : Int) (hB : Below w0.heap.size w0 W) (hr0 : Kd.C (Kd.int .u8) w0 A0 f0.length f0) : IsS104 w0 (W.alloc (.cells #[.slice A0 f0.length c0, .int .i64 f1] 104)) W.heap.size f0 f1 := ⟨A0, c0, by simpa using heap_alloc_new W _, hB.size, hr0⟩

/-! ### spec_l15Open: function 78 -/
def spec_l15Open.f (l0 : List Int) : Option (List Int × Int) := if (l0.length : Int) > 2000 then (if 2000 ≤ (l0.length : Int) then (some (l0.take 2000, 0)) else (none)) else (some (l0, 0))
set_option maxHeartbeats 8000000 in
set_option maxRecDepth 100000 in
theorem spec_l15Open.calls (A0 : Option Addr) (c0 : Nat) (l0 : List Int) (r1 : List Int) (r2 : Int) (w0 w : World) (hB : Below w0.heap.size w0 w) (hr0 : Kd.C (Kd.int .u8) w0 A0 l0.length l0) (hc0 : l0.length ≤ c0) (h : spec_l15Open.f l0 = some (r1, r2)) :
    Calls Try.prog 78 #[.slice A0 l0.length c0] w fun e w' => ∃ g_ : Nat, e = .returned (.pointer (some ⟨g_, 0, none⟩)) ∧ IsS104 w0 w' g_ r1 r2 ∧ Below w0.heap.size w0 w' ∧ Below w.heap.size w w' := by
  have hu104 := Try.underlying104
  have HR0 := Aside0.mk hr0
  have HC0 := Aside0.mk hc0
  clear hr0 hc0
  have HBW := Aside0.mk (Below.refl w.heap.size w)
  have HW0 := Aside0.mk hB.size
  have HB := Aside0.mk hB
  clear hB
  have H : (if (l0.length : Int) > 2000 then (if 2000 ≤ (l0.length : Int) then (some (l0.take 2000, 0)) else (none)) else (some (l0, 0))) = some (r1, r2) := h
  clear h
  by_cases c2 : (l0.length : Int) > 2000
  · rw [if_pos c2] at H
    have c2b0 : decide (2000 < (l0.length : Int)) = true := decide_eq_true c2
    have c2b1 : decide (2000 < l0.length) = true := decide_eq_true (by omega)
    clear c2
    by_cases c3 : 2000 ≤ (l0.length : Int)
    · rw [if_pos c3] at H
      have c3b0 := eq_true c3
      have c3b1 : decide (2000 ≤ (l0.length : Int)) = true := decide_eq_true c3
      clear c3
      simp only [Option.some.injEq, Prod.mk.injEq] at H
      obtain ⟨rfl, rfl⟩ := H
      obtain ⟨i04, hi04, _, hsz4, _⟩ := info_parts info5
      obtain ⟨hcut4, hA4, hC4⟩ := print_take_of (P := Try.prog) (Value.int .u8) 0 22 5 .i64 Try.underlying22 hi04 hsz4 A0 c0 l0 2000 (by omega) (of_decide_eq_true (by first | (with_reducible assumption) | assumption)) HC0.out
      have HR101 := Aside0.mk (Kd.C_of_reads (h1 := fun _ => rfl) (hA4 _ (Kd.reads_of_C HR0.out)))
      have HC101 := Aside0.mk hC4
      clear hA4 hC4 hi04 hsz4
      go_enter Try.func78, Try.ntmps78
      go_wp2_with (first | ((with_reducible refine gate_dst (N := 10) rfl ?_); refine box_event ?hg (N := 10) ?hd (cs := #[.slice A0 (l0.take 2000).length c0, .int .i64 0]) (t := 104) ?hr ?_; (case hd => rfl); (case hg => rfl); (case hr => first | (go_simp; done) | (go_simp; rfl)); intro gb102 hg w5 hbox hb; have n0_ := Aside0.mk (below_step HBW.out hb); have n1_ := Aside0.mk (below_step (by repeat (first | (with_reducible first | exact HB.out | apply below_alloc | apply pw_below_drewN | apply below_drew1) | exact HB.out)) hb); have n2_ := Aside0.mk (hbox); have n3_ := Aside0.mk ((by rw [hg]; exact (below_size (by repeat (first | (with_reducible first | exact HBW.out | apply below_alloc | apply pw_below_drewN | apply below_drew1) | exact HBW.out))) : w.heap.size ≤ gb102)); have n4_ := Aside0.mk ((Nat.le_trans HW0.out (by rw [hg]; exact (below_size (by repeat (first | (with_reducible first | exact HBW.out | apply below_alloc | apply pw_below_drewN | apply below_drew1) | exact HBW.out))) : w.heap.size ≤ gb102) : w0.heap.size ≤ gb102)); clear HBW; clear HB; have HBW := n0_; have HB := n1_; have BK102 := n2_; have GW102 := n3_; have GE102 := n4_; clear n0_ n1_ n2_ n3_ n4_; clear hb hbox hg))
      go_ret
      exact ⟨_, rfl, (show IsS104 w0 _ gb102 (l0.take 2000) 0 from ⟨_, _, by (with_reducible repeat (first | refine blk_drewN ?_ _ | refine blk_drew ?_ | refine blk_alloc ?_ _)); exact BK102.out, GE102.out, HR101.out⟩), by repeat (first | (with_reducible first | exact HB.out | apply below_alloc | apply pw_below_drewN | apply below_drew1 | refine below_set ?_ GE102.out) | exact HB.out), by repeat (first | (with_reducible first | exact HBW.out | apply below_alloc | apply pw_below_drewN | apply below_drew1 | refine below_set ?_ GW102.out) | exact HBW.out)⟩
    · rw [if_neg c3] at H
      exact absurd H (by simp)
  · rw [if_neg c2] at H
    have c2b0 : decide (2000 < (l0.length : Int)) = false := decide_eq_false c2
    have c2b1 : decide (2000 < l0.length) = false := decide_eq_false (by omega)
    clear c2
    simp only [Option.some.injEq, Prod.mk.injEq] at H
    obtain ⟨rfl, rfl⟩ := H
    go_enter Try.func78, Try.ntmps78
    go_wp2_with (first | ((with_reducible refine gate_dst (N := 10) rfl ?_); refine box_event ?hg (N := 10) ?hd (cs := #[.slice A0 l0.length c0, .int .i64 0]) (t := 104) ?hr ?_; (case hd => rfl); (case hg => rfl); (case hr => first | (go_simp; done) | (go_simp; rfl)); intro gb103 hg w6 hbox hb; have n0_ := Aside0.mk (below_step HBW.out hb); have n1_ := Aside0.mk (below_step (by repeat (first | (with_reducible first | exact HB.out | apply below_alloc | apply pw_below_drewN | apply below_drew1) | exact HB.out)) hb); have n2_ := Aside0.mk (hbox); have n3_ := Aside0.mk ((by rw [hg]; exact (below_size (by repeat (first | (with_reducible first | exact HBW.out | apply below_alloc | apply pw_below_drewN | apply below_drew1) | exact HBW.out))) : w.heap.size ≤ gb103)); have n4_ := Aside0.mk ((Nat.le_trans HW0.out (by rw [hg]; exact (below_size (by repeat (first | (with_reducible first | exact HBW.out | apply below_alloc | apply pw_below_drewN | apply below_drew1) | exact HBW.out))) : w.heap.size ≤ gb103) : w0.heap.size ≤ gb103)); clear HBW; clear HB; have HBW := n0_; have HB := n1_; have BK103 := n2_; have GW103 := n3_; have GE103 := n4_; clear n0_ n1_ n2_ n3_ n4_; clear hb hbox hg))
    go_ret
    exact ⟨_, rfl, (show IsS104 w0 _ gb103 l0 0 from ⟨_, _, by (with_reducible repeat (first | refine blk_drewN ?_ _ | refine blk_drew ?_ | refine blk_alloc ?_ _)); exact BK103.out, GE103.out, HR0.out⟩), by repeat (first | (with_reducible first | exact HB.out | apply below_alloc | apply pw_below_drewN | apply below_drew1 | refine below_set ?_ GE103.out) | exact HB.out), by repeat (first | (with_reducible first | exact HBW.out | apply below_alloc | apply pw_below_drewN | apply below_drew1 | refine below_set ?_ GW103.out) | exact HBW.out)⟩

/-! ### spec_l15Rd_pick: function 79 -/
def spec_l15Rd_pick.j0 : Nat → Int → Bool → List Int → Int → Option (Int × Int)
  | 0, _, _, _, _ => none
  | k + 1, x1, x24, x1000, x1001 => if x24 = true then (some (0, x1001)) else (if (wrap64 (x1001 - 1)) < (x1000.length : Int) then (if 0 ≤ (wrap64 (x1001 - 1)) then (if x1 = 0 then (none) else (some (Int.tmod (wrap64 (rd x1000 (wrap64 (x1001 - 1)))) x1, x1001))) else (none)) else (if (x1000.length : Int) = 0 then (none) else (if 0 ≤ (Int.tmod (wrap64 (x1001 - 1)) (x1000.length : Int)) then (if (Int.tmod (wrap64 (x1001 - 1)) (x1000.length : Int)) < (x1000.length : Int) then (if 0 ≤ (Int.tmod (wrap64 ((wrap64 ((wrap64 (x1001 - 1)) * 7)) + 3)) (x1000.length : Int)) then (if (Int.tmod (wrap64 ((wrap64 ((wrap64 (x1001 - 1)) * 7)) + 3)) (x1000.length : Int)) < (x1000.length : Int) then (if x1 = 0 then (none) else (some (Int.tmod (Go.bits .xor .i64 (wrap64 ((wrap64 ((wrap64 ((wrap64 ((wrap64 (rd x1000 (Int.tmod (wrap64 (x1001 - 1)) (x1000.length : Int)))) * 131)) + (wrap64 ((wrap64 (rd x1000 (Int.tmod (wrap64 ((wrap64 ((wrap64 (x1001 - 1)) * 7)) + 3)) (x1000.length : Int)))) * 1117)))) + (wrap64 ((wrap64 (x1001 - 1)) * 29)))) + (wrap64 ((wrap64 (Int.tdiv (wrap64 (x1001 - 1)) (x1000.length : Int))) * 53)))) (wrap64 (Int.tdiv (wrap64 ((wrap64 ((wrap64 ((wrap64 ((wrap64 (rd x1000 (Int.tmod (wrap64 (x1001 - 1)) (x1000.length : Int)))) * 131)) + (wrap64 ((wrap64 (rd x1000 (Int.tmod (wrap64 ((wrap64 ((wrap64 (x1001 - 1)) * 7)) + 3)) (x1000.length : Int)))) * 1117)))) + (wrap64 ((wrap64 (x1001 - 1)) * 29)))) + (wrap64 ((wrap64 (Int.tdiv (wrap64 (x1001 - 1)) (x1000.length : Int))) * 53)))) 64))) x1, x1001))) else (none)) else (none)) else (none)) else (none))))
def spec_l15Rd_pick.f (k : Nat) (s0_0 : List Int) (s0_1 : Int) (a1 : Int) : Option (Int × Int) := if a1 < 1 then (spec_l15Rd_pick.j0 k a1 true s0_0 (wrap64 (s0_1 + 1))) else (spec_l15Rd_pick.j0 k a1 ((s0_0.length : Int) == 0) s0_0 (wrap64 (s0_1 + 1)))
theorem spec_l15Rd_pick.mono_l : ∀ k, (∀ y0 y1 y2 y3, LeO (spec_l15Rd_pick.j0 k y0 y1 y2 y3) (spec_l15Rd_pick.j0 (k + 1) y0 y1 y2 y3))
  | 0 => fun _ _ _ _ r h => by simp [spec_l15Rd_pick.j0] at h
  | k + 1 => by
    have ih0 := spec_l15Rd_pick.mono_l k
    · intro y0 y1 y2 y3
      unfold spec_l15Rd_pick.j0
      repeat' first
      | (with_reducible exact ih0 _ _ _ _)
      | (with_reducible exact LeO.refl _)
      | (with_reducible exact LeO.none _)
      | (with_reducible refine LeO.ite ?_ ?_)
      | (with_reducible refine LeO.bind ?_ (fun _ => ?_))
      | exact ih0 _ _ _ _
      | exact LeO.none _
      | refine LeO.ite ?_ ?_
      | refine LeO.bind ?_ (fun _ => ?_)
theorem spec_l15Rd_pick.mono : ∀ a0 a1 a2 k, LeO (spec_l15Rd_pick.f k a0 a1 a2) (spec_l15Rd_pick.f (k + 1) a0 a1 a2) := by
  intro a0 a1 a2 k
  have ih0 := spec_l15Rd_pick.mono_l k
  unfold spec_l15Rd_pick.f
  repeat' first
      | (with_reducible exact ih0 _ _ _ _)
      | (with_reducible exact LeO.refl _)
      | (with_reducible exact LeO.none _)
      | (with_reducible refine LeO.ite ?_ ?_)
      | (with_reducible refine LeO.bind ?_ (fun _ => ?_))
      | exact ih0 _ _ _ _
      | exact LeO.none _
      | refine LeO.ite ?_ ?_
      | refine LeO.bind ?_ (fun _ => ?_)
set_option maxHeartbeats 8000000 in
set_option maxRecDepth 100000 in
theorem spec_l15Rd_pick.calls (k : Nat) (g : Nat) (s0_0 : List Int) (s0_1 : Int) (a1 : Int) (r1 : Int) (r2 : Int) (w0 w : World) (hI : IsS104 w0 w g s0_0 s0_1) (hB : Below w0.heap.size w0 w) (h : spec_l15Rd_pick.f k s0_0 s0_1 a1 = some (r1, r2)) :
    Calls Try.prog 79 #[.pointer (some ⟨g, 0, none⟩), .int .i64 a1] w fun e w' => e = .returned (.int .i64 r1) ∧ IsS104 w0 w' g s0_0 r2 ∧ Below w0.heap.size w0 w' ∧ KeepBut w w' g none := by
  have HI0 := Aside0.mk hI
  have HK := Aside0.mk (KeepBut.refl w g none)
  have HL := Aside0.mk hB.size
  clear hI
  have HW0 := Aside0.mk hB.size
  have HB := Aside0.mk hB
  clear hB
  have H : (if a1 < 1 then (spec_l15Rd_pick.j0 k a1 true s0_0 (wrap64 (s0_1 + 1))) else (spec_l15Rd_pick.j0 k a1 ((s0_0.length : Int) == 0) s0_0 (wrap64 (s0_1 + 1)))) = some (r1, r2) := h
  clear h
  have HC3 := Aside0.mk H
  clear H
  obtain ⟨ASz4_0, cSz4_0, HGz4, hgz4, HSz4_0⟩ := HI0.out
  have hcz4_0 := cellS104_0 HGz4
  have hcz4_1 := cellS104_1 HGz4
  have hfz4_1 := blk_frozen HGz4 1
  clear HGz4 hgz4
  go_enter Try.func79, Try.ntmps79
  go_upto_region 2 with (fail)
  repeat (go_quiet (fail); go_upto_region 2 with (fail))
  go_cut [24] (fun v24 wc => ∃ (kq : Nat) (x24_2 : Bool), v24 = .bool x24_2 ∧ Aside0 (spec_l15Rd_pick.j0 kq a1 x24_2 s0_0 (wrap64 (s0_1 + 1)) = some (r1, r2)) ∧ Aside0 (kq ≤ k) ∧ Aside0 (IsS104 w0 wc g s0_0 (wrap64 (s0_1 + 1))) ∧ Aside0 (KeepBut w wc g none) ∧ Aside0 (Below w0.heap.size w0 wc))
  case first =>
    have H := HC3.out
    clear HC3
    by_cases c5 : a1 < 1
    · rw [if_pos c5] at H
      have c5b0 : decide (a1 < 1) = true := decide_eq_true c5
      clear c5
      (first | rw [c5b0] | (simp only [i64_w, i32_w]; rw [c5b0]) | skip)
      have H' := Aside0.mk H
      clear H
      go_wp2
      repeat (go_quiet (fail); try go_wp2)
      go_meet
      case rel => exact ⟨_, (true), (by first | rfl | (simp; done) | (simp [*]; done)), H', ⟨by first | omega | exact Nat.le_refl _⟩, ⟨by repeat (first | (with_reducible first | exact HI0.out | apply IsS104.alloc | apply IsS104.drewN | apply IsS104.drew | apply IsS104.set_1) | exact HI0.out)⟩, ⟨by repeat (first | (with_reducible first | exact HK.out | apply KeepBut.set_ | apply keep_drewN | apply keep_drew | apply keep_alloc) | exact HK.out)⟩, ⟨by repeat (first | (with_reducible first | exact HB.out | apply below_alloc | apply pw_below_drewN | apply below_drew1 | refine below_set ?_ (IsS104.ge HI0.out)) | exact HB.out)⟩⟩
    · rw [if_neg c5] at H
      have c5b0 : decide (a1 < 1) = false := decide_eq_false c5
      clear c5
      (first | rw [c5b0] | (simp only [i64_w, i32_w]; rw [c5b0]) | skip)
      have H' := Aside0.mk H
      clear H
      obtain ⟨ASz6_0, cSz6_0, HGz6, hgz6, HSz6_0⟩ := HI0.out
      have hcz6_0 := cellS104_0 HGz6
      have hcz6_1 := cellS104_1 HGz6
      have hfz6_1 := blk_frozen HGz6 1
      clear HGz6 hgz6
      go_wp2
      repeat (go_quiet (fail); try go_wp2)
      go_meet
      case rel => exact ⟨_, (((s0_0.length : Int) == 0)), (by first | rfl | (simp; done) | (simp [*]; done)), H', ⟨by first | omega | exact Nat.le_refl _⟩, ⟨by repeat (first | (with_reducible first | exact HI0.out | apply IsS104.alloc | apply IsS104.drewN | apply IsS104.drew | apply IsS104.set_1) | exact HI0.out)⟩, ⟨by repeat (first | (with_reducible first | exact HK.out | apply KeepBut.set_ | apply keep_drewN | apply keep_drew | apply keep_alloc) | exact HK.out)⟩, ⟨by repeat (first | (with_reducible first | exact HB.out | apply below_alloc | apply pw_below_drewN | apply below_drew1 | refine below_set ?_ (IsS104.ge HI0.out)) | exact HB.out)⟩⟩
  case rest =>
    clear HC3
    try clear p2
    try clear c5
    try clear c5b0
    try clear p6
    try clear hcz4_0
    try clear hcz4_1
    try clear hcz6_0
    try clear hcz6_1
    try clear hfz4_1
    try clear hfz6_1
    obtain ⟨kq, x24_2, rfl, HA, HJ2, HI0, HK, HB⟩ := hcut
    cases kq with
    | zero => exact absurd HA.out (by simp [spec_l15Rd_pick.j0])
    | succ kj2 =>
      have H := HA.out
      clear HA
      simp only [spec_l15Rd_pick.j0] at H
      by_cases c7 : x24_2 = true
      · subst c7
        have H1 : (some (0, (wrap64 (s0_1 + 1)))) = some (r1, r2) := by rw [if_pos rfl] at H; exact H
        clear H
        have H := H1
        clear H1
        simp only [Option.some.injEq, Prod.mk.injEq] at H
        obtain ⟨rfl, rfl⟩ := H
        go_wp2
        repeat (go_quiet (fail); try go_wp2)
        go_ret
        exact ⟨by first | rfl | (simp [errW_none, errW_some] <;> rfl) | (simp [*, errW_none, errW_some] <;> rfl), by repeat (first | (with_reducible first | exact HI0.out | apply IsS104.alloc | apply IsS104.drewN | apply IsS104.drew | apply IsS104.set_1) | exact HI0.out), by repeat (first | (with_reducible first | exact HB.out | apply below_alloc | apply pw_below_drewN | apply below_drew1 | refine below_set ?_ (IsS104.ge HI0.out)) | exact HB.out), by repeat (first | (with_reducible first | exact HK.out | apply KeepBut.set_ | apply keep_drewN | apply keep_drew | apply keep_alloc) | exact HK.out)⟩
      · replace c7 := Bool.eq_false_iff.mpr c7
        subst c7
        have H1 : (if (wrap64 ((wrap64 (s0_1 + 1)) - 1)) < (s0_0.length : Int) then (if 0 ≤ (wrap64 ((wrap64 (s0_1 + 1)) - 1)) then (if a1 = 0 then (none) else (some (Int.tmod (wrap64 (rd s0_0 (wrap64 ((wrap64 (s0_1 + 1)) - 1)))) a1, (wrap64 (s0_1 + 1))))) else (none)) else (if (s0_0.length : Int) = 0 then (none) else (if 0 ≤ (Int.tmod (wrap64 ((wrap64 (s0_1 + 1)) - 1)) (s0_0.length : Int)) then (if (Int.tmod (wrap64 ((wrap64 (s0_1 + 1)) - 1)) (s0_0.length : Int)) < (s0_0.length : Int) then (if 0 ≤ (Int.tmod (wrap64 ((wrap64 ((wrap64 ((wrap64 (s0_1 + 1)) - 1)) * 7)) + 3)) (s0_0.length : Int)) then (if (Int.tmod (wrap64 ((wrap64 ((wrap64 ((wrap64 (s0_1 + 1)) - 1)) * 7)) + 3)) (s0_0.length : Int)) < (s0_0.length : Int) then (if a1 = 0 then (none) else (some (Int.tmod (Go.bits .xor .i64 (wrap64 ((wrap64 ((wrap64 ((wrap64 ((wrap64 (rd s0_0 (Int.tmod (wrap64 ((wrap64 (s0_1 + 1)) - 1)) (s0_0.length : Int)))) * 131)) + (wrap64 ((wrap64 (rd s0_0 (Int.tmod (wrap64 ((wrap64 ((wrap64 ((wrap64 (s0_1 + 1)) - 1)) * 7)) + 3)) (s0_0.length : Int)))) * 1117)))) + (wrap64 ((wrap64 ((wrap64 (s0_1 + 1)) - 1)) * 29)))) + (wrap64 ((wrap64 (Int.tdiv (wrap64 ((wrap64 (s0_1 + 1)) - 1)) (s0_0.length : Int))) * 53)))) (wrap64 (Int.tdiv (wrap64 ((wrap64 ((wrap64 ((wrap64 ((wrap64 (rd s0_0 (Int.tmod (wrap64 ((wrap64 (s0_1 + 1)) - 1)) (s0_0.length : Int)))) * 131)) + (wrap64 ((wrap64 (rd s0_0 (Int.tmod (wrap64 ((wrap64 ((wrap64 ((wrap64 (s0_1 + 1)) - 1)) * 7)) + 3)) (s0_0.length : Int)))) * 1117)))) + (wrap64 ((wrap64 ((wrap64 (s0_1 + 1)) - 1)) * 29)))) + (wrap64 ((wrap64 (Int.tdiv (wrap64 ((wrap64 (s0_1 + 1)) - 1)) (s0_0.length : Int))) * 53)))) 64))) a1, (wrap64 (s0_1 + 1))))) else (none)) else (none)) else (none)) else (none)))) = some (r1, r2) := by rw [if_neg (show ¬ (false = true) by decide)] at H; exact H
        clear H
        have H := H1
        clear H1
        by_cases c8 : (wrap64 ((wrap64 (s0_1 + 1)) - 1)) < (s0_0.length : Int)
        · rw [if_pos c8] at H
          have c8b0 : decide ((wrap64 ((wrap64 (s0_1 + 1)) - 1)) < (s0_0.length : Int)) = true := decide_eq_true c8
          clear c8
          obtain ⟨ji9, hji9⟩ : ∃ j_ : Int, (wrap64 ((wrap64 (s0_1 + 1)) - 1)) = j_ := ⟨_, rfl⟩
          replace H : (if 0 ≤ (ji9) then (if a1 = 0 then (none) else (some (Int.tmod (wrap64 (rd s0_0 (ji9))) a1, (wrap64 (s0_1 + 1))))) else (none)) = some (r1, r2) := by first | (rw [hji9] at H; exact H) | (simp only [hji9] at H ⊢; exact H)
          (try rw [hji9] at c8b0)
          have hji9w : (IntKind.i64.wrap ((wrap64 (s0_1 + 1)) - 1)) = ji9 := (i64_w _).trans hji9
          by_cases c10 : 0 ≤ (ji9)
          · rw [if_pos c10] at H
            have c10b0 : decide (0 ≤ (ji9)) = true := decide_eq_true c10
            clear c10
            by_cases c11 : a1 = 0
            · rw [if_pos c11] at H
              exact absurd H (by simp)
            · rw [if_neg c11] at H
              have c11b0 : (a1 == 0) = false := beq_eq_false_iff_ne.mpr c11
              have c11b1 : (a1 != 0) = true := bne_iff_ne.mpr c11
              simp only [Option.some.injEq, Prod.mk.injEq] at H
              obtain ⟨rfl, rfl⟩ := H
              obtain ⟨ASz12_0, cSz12_0, HGz12, hgz12, HSz12_0⟩ := HI0.out
              have hcz12_0 := cellS104_0 HGz12
              have hcz12_1 := cellS104_1 HGz12
              have hfz12_1 := blk_frozen HGz12 1
              clear HGz12 hgz12
              have p104 : 0 ≤ ((ji9) : Int) := of_decide_eq_true (by first | (with_reducible assumption) | assumption)
              have q104 : (ji9) < (s0_0.length : Int) := of_decide_eq_true (by first | (with_reducible assumption) | assumption)
              obtain ⟨ad104, e104, hx104_0⟩ := Kd.at_int HSz12_0 (ji9) p104 q104
              cases e104
              replace hx104_0 := pw_cell_below HB.out hx104_0
              replace p104 := eq_true p104
              replace q104 := eq_true q104
              go_wp2
              repeat (go_quiet (fail); try go_wp2)
              go_ret
              exact ⟨by first | rfl | (simp [errW_none, errW_some] <;> rfl) | (simp only [← hji9]; first | rfl | (simp [errW_none, errW_some] <;> rfl)) | (simp [*, errW_none, errW_some] <;> rfl), by repeat (first | (with_reducible first | exact HI0.out | apply IsS104.alloc | apply IsS104.drewN | apply IsS104.drew | apply IsS104.set_1) | exact HI0.out), by repeat (first | (with_reducible first | exact HB.out | apply below_alloc | apply pw_below_drewN | apply below_drew1 | refine below_set ?_ (IsS104.ge HI0.out)) | exact HB.out), by repeat (first | (with_reducible first | exact HK.out | apply KeepBut.set_ | apply keep_drewN | apply keep_drew | apply keep_alloc) | exact HK.out)⟩
          · rw [if_neg c10] at H
            exact absurd H (by simp)
        · rw [if_neg c8] at H
          have c8b0 : decide ((wrap64 ((wrap64 (s0_1 + 1)) - 1)) < (s0_0.length : Int)) = false := decide_eq_false c8
          clear c8
          by_cases c13 : (s0_0.length : Int) = 0
          · rw [if_pos c13] at H
            exact absurd H (by simp)
          · rw [if_neg c13] at H
            have c13b0 : ((s0_0.length : Int) == 0) = false := beq_eq_false_iff_ne.mpr c13
            have c13b1 : ((s0_0.length : Int) != 0) = true := bne_iff_ne.mpr c13
            have c13b2 : ¬ (s0_0 = []) := fun h_ => c13 (by rw [h_]; rfl)
            obtain ⟨ji14, hji14⟩ : ∃ j_ : Int, (Int.tmod (wrap64 ((wrap64 (s0_1 + 1)) - 1)) (s0_0.length : Int)) = j_ := ⟨_, rfl⟩
            replace H : (if 0 ≤ (ji14) then (if (ji14) < (s0_0.length : Int) then (if 0 ≤ (Int.tmod (wrap64 ((wrap64 ((wrap64 ((wrap64 (s0_1 + 1)) - 1)) * 7)) + 3)) (s0_0.length : Int)) then (if (Int.tmod (wrap64 ((wrap64 ((wrap64 ((wrap64 (s0_1 + 1)) - 1)) * 7)) + 3)) (s0_0.length : Int)) < (s0_0.length : Int) then (if a1 = 0 then (none) else (some (Int.tmod (Go.bits .xor .i64 (wrap64 ((wrap64 ((wrap64 ((wrap64 ((wrap64 (rd s0_0 (ji14))) * 131)) + (wrap64 ((wrap64 (rd s0_0 (Int.tmod (wrap64 ((wrap64 ((wrap64 ((wrap64 (s0_1 + 1)) - 1)) * 7)) + 3)) (s0_0.length : Int)))) * 1117)))) + (wrap64 ((wrap64 ((wrap64 (s0_1 + 1)) - 1)) * 29)))) + (wrap64 ((wrap64 (Int.tdiv (wrap64 ((wrap64 (s0_1 + 1)) - 1)) (s0_0.length : Int))) * 53)))) (wrap64 (Int.tdiv (wrap64 ((wrap64 ((wrap64 ((wrap64 ((wrap64 (rd s0_0 (ji14))) * 131)) + (wrap64 ((wrap64 (rd s0_0 (Int.tmod (wrap64 ((wrap64 ((wrap64 ((wrap64 (s0_1 + 1)) - 1)) * 7)) + 3)) (s0_0.length : Int)))) * 1117)))) + (wrap64 ((wrap64 ((wrap64 (s0_1 + 1)) - 1)) * 29)))) + (wrap64 ((wrap64 (Int.tdiv (wrap64 ((wrap64 (s0_1 + 1)) - 1)) (s0_0.length : Int))) * 53)))) 64))) a1, (wrap64 (s0_1 + 1))))) else (none)) else (none)) else (none)) else (none)) = some (r1, r2) := by first | (rw [hji14] at H; exact H) | (simp only [hji14] at H ⊢; exact H)
            by_cases c15 : 0 ≤ (ji14)
            · rw [if_pos c15] at H
              have c15b0 : decide (0 ≤ (ji14)) = true := decide_eq_true c15
              clear c15
              by_cases c16 : (ji14) < (s0_0.length : Int)
              · rw [if_pos c16] at H
                have c16b0 : decide ((ji14) < (s0_0.length : Int)) = true := decide_eq_true c16
                clear c16
                obtain ⟨ji17, hji17⟩ : ∃ j_ : Int, (Int.tmod (wrap64 ((wrap64 ((wrap64 ((wrap64 (s0_1 + 1)) - 1)) * 7)) + 3)) (s0_0.length : Int)) = j_ := ⟨_, rfl⟩
                replace H : (if 0 ≤ (ji17) then (if (ji17) < (s0_0.length : Int) then (if a1 = 0 then (none) else (some (Int.tmod (Go.bits .xor .i64 (wrap64 ((wrap64 ((wrap64 ((wrap64 ((wrap64 (rd s0_0 (ji14))) * 131)) + (wrap64 ((wrap64 (rd s0_0 (ji17))) * 1117)))) + (wrap64 ((wrap64 ((wrap64 (s0_1 + 1)) - 1)) * 29)))) + (wrap64 ((wrap64 (Int.tdiv (wrap64 ((wrap64 (s0_1 + 1)) - 1)) (s0_0.length : Int))) * 53)))) (wrap64 (Int.tdiv (wrap64 ((wrap64 ((wrap64 ((wrap64 ((wrap64 (rd s0_0 (ji14))) * 131)) + (wrap64 ((wrap64 (rd s0_0 (ji17))) * 1117)))) + (wrap64 ((wrap64 ((wrap64 (s0_1 + 1)) - 1)) * 29)))) + (wrap64 ((wrap64 (Int.tdiv (wrap64 ((wrap64 (s0_1 + 1)) - 1)) (s0_0.length : Int))) * 53)))) 64))) a1, (wrap64 (s0_1 + 1))))) else (none)) else (none)) = some (r1, r2) := by first | (rw [hji17] at H; exact H) | (simp only [hji17] at H ⊢; exact H)
                by_cases c18 : 0 ≤ (ji17)
                · rw [if_pos c18] at H
                  have c18b0 : decide (0 ≤ (ji17)) = true := decide_eq_true c18
                  clear c18
                  by_cases c19 : (ji17) < (s0_0.length : Int)
                  · rw [if_pos c19] at H
                    have c19b0 : decide ((ji17) < (s0_0.length : Int)) = true := decide_eq_true c19
                    clear c19
                    by_cases c20 : a1 = 0
                    · rw [if_pos c20] at H
                      exact absurd H (by simp)
                    · rw [if_neg c20] at H
                      have c20b0 : (a1 == 0) = false := beq_eq_false_iff_ne.mpr c20
                      have c20b1 : (a1 != 0) = true := bne_iff_ne.mpr c20
                      simp only [Option.some.injEq, Prod.mk.injEq] at H
                      obtain ⟨rfl, rfl⟩ := H
                      obtain ⟨ASz21_0, cSz21_0, HGz21, hgz21, HSz21_0⟩ := HI0.out
                      have hcz21_0 := cellS104_0 HGz21
                      have hcz21_1 := cellS104_1 HGz21
                      have hfz21_1 := blk_frozen HGz21 1
                      clear HGz21 hgz21
                      have p105 : 0 ≤ ((ji14) : Int) := of_decide_eq_true (by first | (with_reducible assumption) | assumption)
                      have q105 : (ji14) < (s0_0.length : Int) := of_decide_eq_true (by first | (with_reducible assumption) | assumption)
                      obtain ⟨ad105, e105, hx105_0⟩ := Kd.at_int HSz21_0 (ji14) p105 q105
                      cases e105
                      replace hx105_0 := pw_cell_below HB.out hx105_0
                      replace p105 := eq_true p105
                      replace q105 := eq_true q105
                      have p106 : 0 ≤ ((ji17) : Int) := of_decide_eq_true (by first | (with_reducible assumption) | assumption)
                      have q106 : (ji17) < (s0_0.length : Int) := of_decide_eq_true (by first | (with_reducible assumption) | assumption)
                      obtain ⟨ad106, e106, hx106_0⟩ := Kd.at_int HSz21_0 (ji17) p106 q106
                      obtain rfl : ad105 = ad106 := (by injection e106)
                      replace hx106_0 := pw_cell_below HB.out hx106_0
                      replace p106 := eq_true p106
                      replace q106 := eq_true q106
                      go_wp2
                      repeat (go_quiet (fail); try go_wp2)
                      go_ret
                      exact ⟨by first | rfl | (simp [errW_none, errW_some] <;> rfl) | (simp only [← hji14, ← hji17]; first | rfl | (simp [errW_none, errW_some] <;> rfl)) | (simp [*, errW_none, errW_some] <;> rfl), by repeat (first | (with_reducible first | exact HI0.out | apply IsS104.alloc | apply IsS104.drewN | apply IsS104.drew | apply IsS104.set_1) | exact HI0.out), by repeat (first | (with_reducible first | exact HB.out | apply below_alloc | apply pw_below_drewN | apply below_drew1 | refine below_set ?_ (IsS104.ge HI0.out)) | exact HB.out), by repeat (first | (with_reducible first | exact HK.out | apply KeepBut.set_ | apply keep_drewN | apply keep_drew | apply keep_alloc) | exact HK.out)⟩
                  · rw [if_neg c19] at H
                    exact absurd H (by simp)
                · rw [if_neg c18] at H
                  exact absurd H (by simp)
              · rw [if_neg c16] at H
                exact absurd H (by simp)
            · rw [if_neg c15] at H
              exact absurd H (by simp)

/-! ### spec_l1Name: function 114 -/
def spec_l1Name.f (a0 : ByteArray) : Option (Int × ByteArray × Int × List Int × (List (S31))) := some (1, a0, 0, ([] : List Int), ([] : List (S31)))
set_option maxHeartbeats 8000000 in
set_option maxRecDepth 100000 in
theorem spec_l1Name.calls (a0 : ByteArray) (r1 : Int) (r2 : ByteArray) (r3 : Int) (r4 : List Int) (r5 : List (S31)) (w : World) (h : spec_l1Name.f a0 = some (r1, r2, r3, r4, r5)) :
    Calls Try.prog 114 #[.string a0] w fun e w' => ∃ v3_ v4_ : Value, e = .returned (.agg #[.int .i64 r1, .string r2, .int .i64 r3, v3_, v4_]) ∧ Kd.R (Kd.int .i64) 3 w' w.heap.size (fun _ => True) v3_ r4 ∧ Kd.R k31 31 w' w.heap.size (fun k_ => some k_ ≠ (v3_ : Value).ownBlock) v4_ r5 ∧ Below w.heap.size w w' := by
  have hu31 := Try.underlying31
  have HB := Aside0.mk (Below.refl w.heap.size w)
  have H : (some (1, a0, 0, ([] : List Int), ([] : List (S31)))) = some (r1, r2, r3, r4, r5) := h
  clear h
  simp only [Option.some.injEq, Prod.mk.injEq] at H
  obtain ⟨rfl, rfl, rfl, rfl, rfl⟩ := H
  go_enter Try.func114, Try.ntmps114
  go_wp2_with (first | ((with_reducible refine gate_dst (N := 2) rfl ?_); refine box_event ?hg (N := 2) ?hd (cs := #[.int .i64 0, .string (⟨#[]⟩ : ByteArray), .int .i64 0, .slice none 0 0, .slice none 0 0]) (t := 31) ?hr ?_; (case hd => rfl); (case hg => rfl); (case hr => first | (go_simp; done) | (go_simp; rfl)); intro gb107 hg w2 hbox hb; have n0_ := Aside0.mk (below_step (by repeat (first | (with_reducible first | exact HB.out | apply below_alloc | apply pw_below_drewN | apply below_drew1) | exact HB.out)) hb); have n1_ := Aside0.mk (hbox); have n2_ := Aside0.mk ((by rw [hg]; exact (below_size (by repeat (first | (with_reducible first | exact HB.out | apply below_alloc | apply pw_below_drewN | apply below_drew1) | exact HB.out))) : w.heap.size ≤ gb107)); have n3_ := Aside0.mk ((by rw [hg]; exact (below_size (by repeat (first | (with_reducible first | exact HB.out | apply below_alloc | apply pw_below_drewN | apply below_drew1) | exact HB.out))) : w.heap.size ≤ gb107)); clear HB; have HB := n0_; have BK107 := n1_; have GW107 := n2_; have GE107 := n3_; clear n0_ n1_ n2_ n3_; clear hb hbox hg; have hcz3_0 : w2.cell? ⟨gb107, 0, none⟩ = some (.int .i64 0) := (blk_cell BK107.out 0).trans rfl; have hcz3_1 : w2.cell? ⟨gb107, 1, none⟩ = some (.string (⟨#[]⟩ : ByteArray)) := (blk_cell BK107.out 1).trans rfl; have hcz3_2 : w2.cell? ⟨gb107, 2, none⟩ = some (.int .i64 0) := (blk_cell BK107.out 2).trans rfl; have hcz3_3 : w2.cell? ⟨gb107, 3, none⟩ = some (.slice none 0 0) := (blk_cell BK107.out 3).trans rfl; have hcz3_4 : w2.cell? ⟨gb107, 4, none⟩ = some (.slice none 0 0) := (blk_cell BK107.out 4).trans rfl; have hfz3_0 := blk_frozen BK107.out 0; have hfz3_1 := blk_frozen BK107.out 1; have hfz3_2 := blk_frozen BK107.out 2; have hfz3_3 := blk_frozen BK107.out 3; have hfz3_4 := blk_frozen BK107.out 4))
  refine bodyPost_ret (results_cell_row rfl _ _ gb107 31 #[.int .i64 1, .string a0, .int .i64 0, .slice none 0 0, .slice none 0 0] (0, 0) _ rfl (by (with_reducible repeat (first | refine blk_drewN ?_ _ | refine blk_drew ?_ | refine blk_alloc ?_ _)); refine blk_put (cs := #[.int .i64 1, .string a0, .int .i64 0, .slice none 0 0, .slice none 0 0]) ?_ 4 _ rfl; (with_reducible repeat (first | refine blk_drewN ?_ _ | refine blk_drew ?_ | refine blk_alloc ?_ _)); refine blk_put (cs := #[.int .i64 1, .string a0, .int .i64 0, .slice none 0 0, .slice none 0 0]) ?_ 3 _ rfl; (with_reducible repeat (first | refine blk_drewN ?_ _ | refine blk_drew ?_ | refine blk_alloc ?_ _)); refine blk_put (cs := #[.int .i64 1, .string a0, .int .i64 0, .slice none 0 0, .slice none 0 0]) ?_ 2 _ rfl; (with_reducible repeat (first | refine blk_drewN ?_ _ | refine blk_drew ?_ | refine blk_alloc ?_ _)); refine blk_put (cs := #[.int .i64 1, .string (⟨#[]⟩ : ByteArray), .int .i64 0, .slice none 0 0, .slice none 0 0]) ?_ 1 _ rfl; (with_reducible repeat (first | refine blk_drewN ?_ _ | refine blk_drew ?_ | refine blk_alloc ?_ _)); refine blk_put (cs := #[.int .i64 0, .string (⟨#[]⟩ : ByteArray), .int .i64 0, .slice none 0 0, .slice none 0 0]) ?_ 0 _ rfl; (with_reducible repeat (first | refine blk_drewN ?_ _ | refine blk_drew ?_ | refine blk_alloc ?_ _)); exact BK107.out) Try.underlying31 rfl (by kernel_rfl)) rfl ?_
  exact ⟨_, _, by first | rfl | (simp [errW_none, errW_some] <;> rfl) | (simp [*, errW_none, errW_some] <;> rfl), by first | exact Kd.R_nil _ _ _ _ _ | exact Kd.N_nil _ _ _ _ _ | exact Kd.V_nil _ _ _ _ _ | exact Kd.Q_nil _ _ _ _ _ | exact Kd.S_nil _ _ _ _ _, by first | exact Kd.R_nil _ _ _ _ _ | exact Kd.N_nil _ _ _ _ _ | exact Kd.V_nil _ _ _ _ _ | exact Kd.Q_nil _ _ _ _ _ | exact Kd.S_nil _ _ _ _ _, by repeat (first | (with_reducible first | exact HB.out | apply below_alloc | apply pw_below_drewN | apply below_drew1 | refine below_set ?_ GE107.out) | exact HB.out)⟩

/-! ### spec_l15Rd_num: function 126 -/
def spec_l15Rd_num.f (k : Nat) (s0_0 : List Int) (s0_1 : Int) (l1 : List Int) : Option (Int × Int) := (spec_l15Rd_pick.f k s0_0 s0_1 (l1.length : Int)).bind fun bt108 => (if 0 ≤ bt108.1 then (if bt108.1 < (l1.length : Int) then (some (rd l1 bt108.1, bt108.2)) else (none)) else (none))
theorem spec_l15Rd_num.mono : ∀ a0 a1 a2 k, LeO (spec_l15Rd_num.f k a0 a1 a2) (spec_l15Rd_num.f (k + 1) a0 a1 a2) := by
  intro a0 a1 a2 k
  unfold spec_l15Rd_num.f
  repeat' first
      | (with_reducible exact spec_l15Rd_pick.mono _ _ _ _)
      | (with_reducible exact LeO.refl _)
      | (with_reducible exact LeO.none _)
      | (with_reducible refine LeO.ite ?_ ?_)
      | (with_reducible refine LeO.bind ?_ (fun _ => ?_))
      | exact spec_l15Rd_pick.mono _ _ _ _
      | exact LeO.none _
      | refine LeO.ite ?_ ?_
      | refine LeO.bind ?_ (fun _ => ?_)
set_option maxHeartbeats 8000000 in
set_option maxRecDepth 100000 in
theorem spec_l15Rd_num.calls (k : Nat) (g : Nat) (s0_0 : List Int) (s0_1 : Int) (A1 : Option Addr) (c1 : Nat) (l1 : List Int) (r1 : Int) (r2 : Int) (w0 w : World) (hI : IsS104 w0 w g s0_0 s0_1) (hB : Below w0.heap.size w0 w) (hr1 : Kd.C (Kd.int .i64) w A1 l1.length l1) (hc1 : l1.length ≤ c1) (hf1 : ∀ ad, A1 = some ad → 0 < l1.length → ad.block ≠ g) (h : spec_l15Rd_num.f k s0_0 s0_1 l1 = some (r1, r2)) :
    Calls Try.prog 126 #[.pointer (some ⟨g, 0, none⟩), .slice A1 l1.length c1] w fun e w' => e = .returned (.int .i64 r1) ∧ IsS104 w0 w' g s0_0 r2 ∧ Below w0.heap.size w0 w' ∧ KeepBut w w' g none := by
  have HR1 := Aside0.mk hr1
  have HC1 := Aside0.mk hc1
  clear hr1 hc1
  have HI0 := Aside0.mk hI
  have HK := Aside0.mk (KeepBut.refl w g none)
  have HL := Aside0.mk hB.size
  clear hI
  have HW0 := Aside0.mk hB.size
  have HB := Aside0.mk hB
  clear hB
  have H : ((spec_l15Rd_pick.f k s0_0 s0_1 (l1.length : Int)).bind fun bt108 => (if 0 ≤ bt108.1 then (if bt108.1 < (l1.length : Int) then (some (rd l1 bt108.1, bt108.2)) else (none)) else (none))) = some (r1, r2) := h
  clear h
  replace H := Option.bind_eq_some_iff.mp H
  obtain ⟨⟨t108, t109⟩, A30, H⟩ := H
  replace H : (if 0 ≤ t108 then (if t108 < (l1.length : Int) then (some (rd l1 t108, t109)) else (none)) else (none)) = some (r1, r2) := H
  have A3 := Aside0.mk A30
  clear A30
  by_cases c4 : 0 ≤ t108
  · rw [if_pos c4] at H
    have c4b0 : decide (0 ≤ t108) = true := decide_eq_true c4
    clear c4
    by_cases c5 : t108 < (l1.length : Int)
    · rw [if_pos c5] at H
      have c5b0 : decide (t108 < (l1.length : Int)) = true := decide_eq_true c5
      clear c5
      simp only [Option.some.injEq, Prod.mk.injEq] at H
      obtain ⟨rfl, rfl⟩ := H
      go_enter Try.func126, Try.ntmps126
      go_wp2_with (first | ((with_reducible refine gate_callee (f := 79) rfl ?_); refine goesL_ (some 9) rfl rfl Try.func79 (by kernel_rfl) rfl #[.pointer (some ⟨g, 0, none⟩), .int .i64 (l1.length : Int)] rfl (by (try simp only [List.map_toArray, List.map_cons, List.map_nil]); first | done | rfl | (simp only [List.length_drop, List.length_take]; rfl)) ?_; (with_reducible refine (spec_l15Rd_pick.calls k g s0_0 s0_1 (l1.length : Int) t108 t109 w0 _ ?side1 ?side2 A3.out).mono ?_); (case side1 => repeat (first | (with_reducible first | exact HI0.out | apply IsS104.alloc | apply IsS104.drewN | apply IsS104.drew | apply IsS104.set_1) | exact HI0.out)); (case side2 => repeat (first | (with_reducible first | exact HB.out | apply below_alloc | apply pw_below_drewN | apply below_drew1 | refine below_set ?_ (IsS104.ge HI0.out)) | exact HB.out)); rintro e w6 ⟨rfl, hi, hb, hk⟩; refine ⟨_, rfl, ?_⟩; have n0_ := Aside0.mk (KeepBut.trans (by repeat (first | (with_reducible first | exact HK.out | apply KeepBut.set_ | apply keep_drewN | apply keep_drew | apply keep_alloc) | exact HK.out)) hk (.inl rfl)); have n1_ := Aside0.mk (hb); have n2_ := Aside0.mk (hi); clear HK; clear HB; clear HI0; have HK := n0_; have HB := n1_; have HI0 := n2_; clear n0_ n1_ n2_; (try clear hb); (try clear hb2); (try clear hk); (try clear hi); have p110 : 0 ≤ (t108 : Int) := of_decide_eq_true (by first | (with_reducible assumption) | assumption); have q110 : t108 < (l1.length : Int) := of_decide_eq_true (by first | (with_reducible assumption) | assumption); obtain ⟨ad110, e110, hx110_0⟩ := Kd.at_int HR1.out t108 p110 q110; cases e110; replace hx110_0 := keep_cell HK.out hx110_0 (by first | (rw [add_block]; exact hf1 _ rfl (by omega)) | exact hf1 _ rfl (by omega) | exact hf1 ad110 rfl (by omega)); replace p110 := eq_true p110; replace q110 := eq_true q110))
      go_ret
      exact ⟨by first | rfl | (simp [errW_none, errW_some] <;> rfl) | (simp [*, errW_none, errW_some] <;> rfl), by repeat (first | (with_reducible first | exact HI0.out | apply IsS104.alloc | apply IsS104.drewN | apply IsS104.drew | apply IsS104.set_1) | exact HI0.out), by repeat (first | (with_reducible first | exact HB.out | apply below_alloc | apply pw_below_drewN | apply below_drew1 | refine below_set ?_ (IsS104.ge HI0.out)) | exact HB.out), by repeat (first | (with_reducible first | exact HK.out | apply KeepBut.set_ | apply keep_drewN | apply keep_drew | apply keep_alloc) | exact HK.out)⟩
    · rw [if_neg c5] at H
      exact absurd H (by simp)
  · rw [if_neg c4] at H
    exact absurd H (by simp)

/-! ### spec_l15Rd_of: function 131 -/
def spec_l15Rd_of.f (k : Nat) (s0_0 : List Int) (s0_1 : Int) (l1 : List ByteArray) : Option (ByteArray × Int) := (spec_l15Rd_pick.f k s0_0 s0_1 (l1.length : Int)).bind fun bt111 => (if 0 ≤ bt111.1 then (if bt111.1 < (l1.length : Int) then (some (rdOf ByteArray.empty l1 bt111.1, bt111.2)) else (none)) else (none))
theorem spec_l15Rd_of.mono : ∀ a0 a1 a2 k, LeO (spec_l15Rd_of.f k a0 a1 a2) (spec_l15Rd_of.f (k + 1) a0 a1 a2) := by
  intro a0 a1 a2 k
  unfold spec_l15Rd_of.f
  repeat' first
      | (with_reducible exact spec_l15Rd_pick.mono _ _ _ _)
      | (with_reducible exact LeO.refl _)
      | (with_reducible exact LeO.none _)
      | (with_reducible refine LeO.ite ?_ ?_)
      | (with_reducible refine LeO.bind ?_ (fun _ => ?_))
      | exact spec_l15Rd_pick.mono _ _ _ _
      | exact LeO.none _
      | refine LeO.ite ?_ ?_
      | refine LeO.bind ?_ (fun _ => ?_)
set_option maxHeartbeats 8000000 in
set_option maxRecDepth 100000 in
theorem spec_l15Rd_of.calls (k : Nat) (g : Nat) (s0_0 : List Int) (s0_1 : Int) (A1 : Option Addr) (c1 : Nat) (l1 : List ByteArray) (r1 : ByteArray) (r2 : Int) (w0 w : World) (hI : IsS104 w0 w g s0_0 s0_1) (hB : Below w0.heap.size w0 w) (hr1 : Kd.C Kd.string w A1 l1.length l1) (hc1 : l1.length ≤ c1) (hf1 : ∀ ad, A1 = some ad → 0 < l1.length → ad.block ≠ g) (h : spec_l15Rd_of.f k s0_0 s0_1 l1 = some (r1, r2)) :
    Calls Try.prog 131 #[.pointer (some ⟨g, 0, none⟩), .slice A1 l1.length c1] w fun e w' => e = .returned (.string r1) ∧ IsS104 w0 w' g s0_0 r2 ∧ Below w0.heap.size w0 w' ∧ KeepBut w w' g none := by
  have HR1 := Aside0.mk hr1
  have HC1 := Aside0.mk hc1
  clear hr1 hc1
  have HI0 := Aside0.mk hI
  have HK := Aside0.mk (KeepBut.refl w g none)
  have HL := Aside0.mk hB.size
  clear hI
  have HW0 := Aside0.mk hB.size
  have HB := Aside0.mk hB
  clear hB
  have H : ((spec_l15Rd_pick.f k s0_0 s0_1 (l1.length : Int)).bind fun bt111 => (if 0 ≤ bt111.1 then (if bt111.1 < (l1.length : Int) then (some (rdOf ByteArray.empty l1 bt111.1, bt111.2)) else (none)) else (none))) = some (r1, r2) := h
  clear h
  replace H := Option.bind_eq_some_iff.mp H
  obtain ⟨⟨t111, t112⟩, A30, H⟩ := H
  replace H : (if 0 ≤ t111 then (if t111 < (l1.length : Int) then (some (rdOf ByteArray.empty l1 t111, t112)) else (none)) else (none)) = some (r1, r2) := H
  have A3 := Aside0.mk A30
  clear A30
  by_cases c4 : 0 ≤ t111
  · rw [if_pos c4] at H
    have c4b0 : decide (0 ≤ t111) = true := decide_eq_true c4
    clear c4
    by_cases c5 : t111 < (l1.length : Int)
    · rw [if_pos c5] at H
      have c5b0 : decide (t111 < (l1.length : Int)) = true := decide_eq_true c5
      clear c5
      simp only [Option.some.injEq, Prod.mk.injEq] at H
      obtain ⟨rfl, rfl⟩ := H
      go_enter Try.func131, Try.ntmps131
      go_wp2_with (first | ((with_reducible refine gate_callee (f := 79) rfl ?_); refine goesL_ (some 9) rfl rfl Try.func79 (by kernel_rfl) rfl #[.pointer (some ⟨g, 0, none⟩), .int .i64 (l1.length : Int)] rfl (by (try simp only [List.map_toArray, List.map_cons, List.map_nil]); first | done | rfl | (simp only [List.length_drop, List.length_take]; rfl)) ?_; (with_reducible refine (spec_l15Rd_pick.calls k g s0_0 s0_1 (l1.length : Int) t111 t112 w0 _ ?side1 ?side2 A3.out).mono ?_); (case side1 => repeat (first | (with_reducible first | exact HI0.out | apply IsS104.alloc | apply IsS104.drewN | apply IsS104.drew | apply IsS104.set_1) | exact HI0.out)); (case side2 => repeat (first | (with_reducible first | exact HB.out | apply below_alloc | apply pw_below_drewN | apply below_drew1 | refine below_set ?_ (IsS104.ge HI0.out)) | exact HB.out)); rintro e w6 ⟨rfl, hi, hb, hk⟩; refine ⟨_, rfl, ?_⟩; have n0_ := Aside0.mk (KeepBut.trans (by repeat (first | (with_reducible first | exact HK.out | apply KeepBut.set_ | apply keep_drewN | apply keep_drew | apply keep_alloc) | exact HK.out)) hk (.inl rfl)); have n1_ := Aside0.mk (hb); have n2_ := Aside0.mk (hi); clear HK; clear HB; clear HI0; have HK := n0_; have HB := n1_; have HI0 := n2_; clear n0_ n1_ n2_; (try clear hb); (try clear hb2); (try clear hk); (try clear hi); have p113 : 0 ≤ (t111 : Int) := of_decide_eq_true (by first | (with_reducible assumption) | assumption); have q113 : t111 < (l1.length : Int) := of_decide_eq_true (by first | (with_reducible assumption) | assumption); obtain ⟨ad113, e113, hx113_0⟩ := Kd.at_string HR1.out t111 p113 q113; cases e113; replace hx113_0 := keep_cell HK.out hx113_0 (by first | (rw [add_block]; exact hf1 _ rfl (by omega)) | exact hf1 _ rfl (by omega) | exact hf1 ad113 rfl (by omega)); replace p113 := eq_true p113; replace q113 := eq_true q113))
      go_ret
      exact ⟨by first | rfl | (simp [errW_none, errW_some] <;> rfl) | (simp [*, errW_none, errW_some] <;> rfl), by repeat (first | (with_reducible first | exact HI0.out | apply IsS104.alloc | apply IsS104.drewN | apply IsS104.drew | apply IsS104.set_1) | exact HI0.out), by repeat (first | (with_reducible first | exact HB.out | apply below_alloc | apply pw_below_drewN | apply below_drew1 | refine below_set ?_ (IsS104.ge HI0.out)) | exact HB.out), by repeat (first | (with_reducible first | exact HK.out | apply KeepBut.set_ | apply keep_drewN | apply keep_drew | apply keep_alloc) | exact HK.out)⟩
    · rw [if_neg c5] at H
      exact absurd H (by simp)
  · rw [if_neg c4] at H
    exact absurd H (by simp)

end Go.Proofs.Yteonncnhhccgeaa.Q
end
section
namespace Go.Proofs.Yteonncnhhccgeaa
open Go.RowKit Go.Proofs.YteonncnhhccgeaaW.PrintWords Go.Proofs.YteonncnhhccgeaaW.PrintLast Go.Proofs.YteonncnhhccgeaaW.PrintMore
set_option linter.unusedVariables false
set_option linter.unusedSimpArgs false
abbrev IsRd := @Q.IsS104
/-- From w to W: the source in block g stands at q; no other block of w has changed. -/
structure Dr (w0 w : World) (g : Nat) (s : List Int) (q : Int) (W : World) : Prop where
  is : IsRd w0 W g s q
  b : Below w0.heap.size w0 W
  kp : KeepBut w W g none
  lt : g < w.heap.size
section
variable {w0 w W W1 : World} {g : Nat} {s : List Int} {q q' : Int}
theorem Dr.new (hi : IsRd w0 w g s q) (hb : Below w0.heap.size w0 w) : Dr w0 w g s q w := ⟨hi, hb, KeepBut.refl _ _ _, Q.IsS104.lt hi⟩
theorem Dr.size (h : Dr w0 w g s q W) : w.heap.size ≤ W.heap.size := keep_size h.kp
theorem Dr.later (h : Dr w0 w g s q W) (hb : Below W.heap.size W W1) : Dr w0 w g s q W1 := ⟨Q.IsS104.below h.is hb, below_step h.b hb, h.kp.trans (KeepBut.of_below hb g none) (.inl rfl), h.lt⟩
theorem Dr.call (h : Dr w0 w g s q W) (h1 : IsRd w0 W1 g s q') (h2 : Below w0.heap.size w0 W1) (h3 : KeepBut W W1 g none) : Dr w0 w g s q' W1 := ⟨h1, h2, h.kp.trans h3 (.inl rfl), h.lt⟩
theorem Dr.put (h : Dr w0 w g s q W) {b j : Nat} (hb : w.heap.size ≤ b) (u : Value) : Dr w0 w g s q (W.setCell ⟨b, j, none⟩ u) := by
  have := h.lt
  have hge := Q.IsS104.ge h.is
  exact ⟨Q.IsS104.far h.is (by show g ≠ b; omega) u, below_set h.b (by show w0.heap.size ≤ b; omega), keep_far h.kp (by exact hb) u, h.lt⟩
theorem Dr.grown {row : Option Nat} (h : Dr w0 w g s q W) (hg : W.grownBy W1 row) (hr : ∀ k, row = some k → w.heap.size ≤ k) : Dr w0 w g s q W1 := by
  have hl := h.lt
  have hge := Q.IsS104.ge h.is
  have hs := h.size
  have hne : ∀ k, k < w.heap.size → some k ≠ row := fun k hk he => by
    have := hr k he.symm
    omega
  refine ⟨Q.IsS104.grown h.is hg (hne g hl), ⟨hg.os.trans h.b.os, hg.tape.trans h.b.tape, hg.output.trans h.b.output, Nat.le_trans h.b.size hg.size, fun k hk => (hg.block k (by have := h.b.size; omega) (hne k (by omega))).trans (h.b.block k hk)⟩, ⟨Nat.le_trans hs hg.size, fun i hi h1 h2 => (hg.block i (by omega) (hne i hi)).trans (h.kp.2 i hi h1 h2)⟩, hl⟩
end
structure Dp (w0 w : World) (g : Nat) (s : List Int) (q : Int) (O1 O2 : Obj) (g3 : Nat) (k : Int) (n : ByteArray) (m : Int) (sc : List Int) (ks : List Fm) (v3 v : Value) (inner : List Value) (fp : List Nat) (W : World) : Prop where
  dr : Dr w0 w g s q W
  k1 : W.heap[w.heap.size]? = some O1
  k2 : W.heap[w.heap.size + 1]? = some O2
  k3 : W.heap[g3]? = some (.cells #[.int .i64 k, .string n, .int .i64 m, v3, v] 31 (0, 0))
  h3 : w.heap.size + 2 ≤ g3
  o3 : W.ownsRow 0 3 1 v3 sc.length (encI sc)
  o4 : W.ownsRow 0 31 5 v ks.length inner
  tr : TrL W ks inner fp
  nd : (obs v3 ++ (obs v ++ fp)).Nodup
  ge : ∀ b, b ∈ obs v3 ++ (obs v ++ fp) → w.heap.size + 2 ≤ b ∧ b ≠ g3
section
variable {w0 w W W1 : World} {g : Nat} {s : List Int} {q q' : Int} {O1 O2 : Obj} {g3 : Nat} {k m : Int} {n : ByteArray} {sc : List Int} {ks : List Fm} {v3 v : Value} {inner : List Value} {fp : List Nat}
theorem Dp.lt (h : Dp w0 w g s q O1 O2 g3 k n m sc ks v3 v inner fp W) : ∀ b, b ∈ obs v3 ++ (obs v ++ fp) → b < W.heap.size := by
  intro b hb
  rcases List.mem_append.1 hb with hb | hb
  · exact own_lt h.o3 b (obs_mem.1 hb)
  rcases List.mem_append.1 hb with hb | hb
  · exact own_lt h.o4 b (obs_mem.1 hb)
  · exact h.tr.lt _ b hb
theorem Dp.lts (h : Dp w0 w g s q O1 O2 g3 k n m sc ks v3 v inner fp W) : w.heap.size + 2 ≤ W.heap.size ∧ g3 < W.heap.size := by
  have h1 := blk_lt h.k2
  have h2 := blk_lt h.k3
  omega
/-- A world in which the source stands elsewhere, and the blocks from w on stand as_ they stood. -/
theorem Dp.move (h : Dp w0 w g s q O1 O2 g3 k n m sc ks v3 v inner fp W) (hd : Dr w0 w g s q' W1) (hm : ∀ b, w.heap.size ≤ b → b < W.heap.size → W1.heap[b]? = W.heap[b]?) : Dp w0 w g s q' O1 O2 g3 k n m sc ks v3 v inner fp W1 := by
  have hl := h.lt
  have hge := h.ge
  have hs := h.lts
  have h3 := h.h3
  have hmv : ∀ b, b ∈ obs v3 ++ (obs v ++ fp) → W1.heap[b]? = W.heap[b]? := fun b hb => hm b (by have := (hge b hb).1; omega) (hl b hb)
  exact ⟨hd, (hm _ (by omega) (by omega)).trans h.k1, (hm _ (by omega) (by omega)).trans h.k2, (hm _ (by omega) (by omega)).trans h.k3, h.h3,
    own_move h.o3 (fun b hb => hmv b (by simp [obs_mem, hb])), own_move h.o4 (fun b hb => hmv b (by simp [obs_mem, hb])), h.tr.move _ (fun b hb => hmv b (by simp [hb])), h.nd, h.ge⟩
theorem Dp.later (h : Dp w0 w g s q O1 O2 g3 k n m sc ks v3 v inner fp W) (hb : Below W.heap.size W W1) : Dp w0 w g s q O1 O2 g3 k n m sc ks v3 v inner fp W1 := h.move (h.dr.later hb) (fun b _ hlt => hb.block b hlt)
theorem Dp.call (h : Dp w0 w g s q O1 O2 g3 k n m sc ks v3 v inner fp W) (h1 : IsRd w0 W1 g s q') (h2 : Below w0.heap.size w0 W1) (h3 : KeepBut W W1 g none) : Dp w0 w g s q' O1 O2 g3 k n m sc ks v3 v inner fp W1 :=
  h.move (h.dr.call h1 h2 h3) (fun b hb hlt => h3.2 b hlt (by have := h.dr.lt; omega) (by simp))
/-- The form's own cells are written: kind, name, number. -/
theorem Dp.put {j : Nat} {u : Value} {k' m' : Int} {n' : ByteArray} (h : Dp w0 w g s q O1 O2 g3 k n m sc ks v3 v inner fp W) (hj : (W.setCell ⟨g3, j, none⟩ u).heap[g3]? = some (.cells #[.int .i64 k', .string n', .int .i64 m', v3, v] 31 (0, 0))) : Dp w0 w g s q O1 O2 g3 k' n' m' sc ks v3 v inner fp (W.setCell ⟨g3, j, none⟩ u) := by
  have hge := h.ge
  have h3 := h.h3
  have hmv : ∀ b, b ≠ g3 → (W.setCell ⟨g3, j, none⟩ u).heap[b]? = W.heap[b]? := fun b hb => Below.heap_setCell _ _ _ _ (by exact hb)
  exact ⟨h.dr.put (by omega) u, (hmv _ (by omega)).trans h.k1, (hmv _ (by omega)).trans h.k2, hj, h3,
    own_move h.o3 (fun b hb => hmv b (hge b (by simp [obs_mem, hb])).2), own_move h.o4 (fun b hb => hmv b (hge b (by simp [obs_mem, hb])).2), h.tr.move _ (fun b hb => hmv b (hge b (by simp [hb])).2), h.nd, h.ge⟩
/-- The form gets other scopes: a row that is none of its parts'. -/
theorem Dp.scopes {u : Value} {sc' : List Int} {row : Option Nat} (h : Dp w0 w g s q O1 O2 g3 k n m sc ks v3 v inner fp W) (hg : W.grownBy W1 row) (hrow : ∀ b, row = some b → w.heap.size + 2 ≤ b ∧ b ≠ g3 ∧ b ∉ obs v ∧ b ∉ fp) (ho : W1.ownsRow 0 3 1 u sc'.length (encI sc')) (hu : ∀ b, u.ownBlock = some b → w.heap.size + 2 ≤ b ∧ b ≠ g3 ∧ b ∉ obs v ∧ b ∉ fp) :
    Dp w0 w g s q O1 O2 g3 k n m sc' ks u v inner fp (W1.setCell ⟨g3, 3, none⟩ u) := by
  have hl := h.lt
  have hls := h.lts
  have hge := h.ge
  have h3 := h.h3
  have hnd := h.nd
  simp only [List.nodup_append, List.mem_append] at hnd hge hl
  obtain ⟨n3, ⟨n4, n5, n45⟩, n345⟩ := hnd
  have hne : ∀ b, b < w.heap.size + 2 ∨ b = g3 ∨ b ∈ obs v ∨ b ∈ fp → some b ≠ row := by
    intro b hb he
    obtain ⟨r1, r2, r3, r4⟩ := hrow b he.symm
    rcases hb with hb | hb | hb | hb
    · omega
    · exact r2 hb
    · exact r3 hb
    · exact r4 hb
  have hmv : ∀ b, b < w.heap.size + 2 ∨ b ∈ obs v ∨ b ∈ fp → (W1.setCell ⟨g3, 3, none⟩ u).heap[b]? = W.heap[b]? := by
    intro b hb
    have hb2 : b < W.heap.size ∧ b ≠ g3 := by
      rcases hb with hb | hb | hb
      · exact ⟨by omega, by omega⟩
      · exact ⟨hl b (.inr (.inl hb)), (hge b (.inr (.inl hb))).2⟩
      · exact ⟨hl b (.inr (.inr hb)), (hge b (.inr (.inr hb))).2⟩
    rw [Below.heap_setCell _ _ _ _ (by exact hb2.2)]
    exact hg.block b hb2.1 (hne b (by rcases hb with hb | hb | hb <;> simp [hb]))
  refine ⟨(h.dr.grown hg (fun c hc => by have := (hrow c hc).1; omega)).put (by omega) u, (hmv _ (.inl (by omega))).trans h.k1, (hmv _ (.inl (by omega))).trans h.k2, ?_, h3, own_move ho (fun b hb => Below.heap_setCell _ _ _ _ (by exact (hu b hb).2.1)), own_move h.o4 (fun b hb => hmv b (.inr (.inl (obs_mem.2 hb)))), h.tr.move _ (fun b hb => hmv b (.inr (.inr hb))), ?_, ?_⟩
  · have := (hg.block g3 hls.2 (hne g3 (.inr (.inl rfl)))).trans h.k3
    simpa using blk_set this 3 u
  · simp only [List.nodup_append, List.mem_append]
    refine ⟨?_, ⟨n4, n5, n45⟩, fun a ha b hb e => ?_⟩
    · unfold obs
      cases u.ownBlock <;> simp
    · subst e
      have := hu a (obs_mem.1 ha)
      rcases hb with hb | hb
      · exact this.2.2.1 hb
      · exact this.2.2.2 hb
  · simp only [List.mem_append]
    intro b hb
    rcases hb with hb | hb | hb
    · have := hu b (obs_mem.1 hb); exact ⟨this.1, this.2.1⟩
    · exact hge b (.inr (.inl hb))
    · exact hge b (.inr (.inr hb))
/-- The form's own row of scopes is apart from its parts. -/
theorem Dp.own3 (h : Dp w0 w g s q O1 O2 g3 k n m sc ks v3 v inner fp W) : ∀ b, v3.ownBlock = some b → w.heap.size + 2 ≤ b ∧ b ≠ g3 ∧ b ∉ obs v ∧ b ∉ fp := by
  intro b hb
  have hge := h.ge b (by simp [obs_mem, hb])
  have hnd := h.nd
  simp only [List.nodup_append, List.mem_append] at hnd
  have hb3 : b ∈ obs v3 := obs_mem.2 hb
  exact ⟨hge.1, hge.2, fun hm => hnd.2.2 b hb3 b (.inl hm) rfl, fun hm => hnd.2.2 b hb3 b (.inr hm) rfl⟩
/-- A new block is none of the form's. -/
theorem Dp.fresh (h : Dp w0 w g s q O1 O2 g3 k n m sc ks v3 v inner fp W) {b : Nat} (hb : W.heap.size ≤ b) : w.heap.size + 2 ≤ b ∧ b ≠ g3 ∧ b ∉ obs v ∧ b ∉ fp := by
  have hl := h.lt
  have hls := h.lts
  refine ⟨by omega, by omega, fun hm => ?_, fun hm => ?_⟩
  · have := hl b (by simp [hm]); omega
  · have := hl b (by simp [hm]); omega
/-- One part of the form gives way to a form in new memory. -/
theorem Dp.kid {B : Nat} {y : Fm} {u3 u4 : Value} {gr cap : Nat} {a b : List Fm} {x : Fm} {ia ib : List Value} {z3 z4 : Value} {fa fx fb : List Nat}
    {N : Nat} (hN : N = ks.length) (h : Dp w0 w g s q O1 O2 g3 k n m sc ks v3 (.slice (some ⟨gr, 0, none⟩) N cap) inner fp W) (hks : ks = a ++ x :: b) (hin : inner = ia ++ ([.int .i64 x.f0, .string x.f1, .int .i64 x.f2, z3, z4] ++ ib)) (hfp : fp = fa ++ (fx ++ fb)) (ha : TrL W a ia fa) (hb : TrL W b ib fb)
    (hB : ∀ c, c ∈ obs v3 ++ (obs (.slice (some ⟨gr, 0, none⟩) N cap) ++ fp) → c < B) (hB3 : g3 < B) (hB2 : w.heap.size + 2 ≤ B) (hn : NewF B W y u3 u4) :
    ∃ fp', Dp w0 w g s q O1 O2 g3 k n m sc (a ++ y :: b) v3 (.slice (some ⟨gr, 0, none⟩) N cap) (ia ++ ([.int .i64 y.f0, .string y.f1, .int .i64 y.f2, u3, u4] ++ ib)) fp' (set5 W gr (a.length * 5) (.int .i64 y.f0) (.string y.f1) (.int .i64 y.f2) u3 u4) := by
  obtain ⟨fk, ht, hknd, hkge⟩ := hn
  have hl := h.lt
  have hls := h.lts
  have hge := h.ge
  have h3 := h.h3
  have hnd := h.nd
  have htl := ht.lt y
  subst hN hks hin hfp
  have hlen := ha.len
  obtain ⟨_, _, hput⟩ := row_put h.o4 hlen
  have hgr : gr ∈ obs (Value.slice (some ⟨gr, 0, none⟩) (a ++ x :: b).length cap) := by simp [obs, Value.ownBlock]
  have hob : ∀ c, c ∈ obs (Value.slice (some ⟨gr, 0, none⟩) (a ++ x :: b).length cap) → c = gr := by intro c hc; simpa [obs, Value.ownBlock] using hc
  simp only [List.nodup_append, List.mem_append] at hnd hge hl hB
  obtain ⟨n3, ⟨n4, ⟨na, ⟨nx, nb, nxb⟩, naxb⟩, n45⟩, n345⟩ := hnd
  have hgr3 := (hge gr (.inr (.inl hgr))).2
  have hmv : ∀ c, c ≠ gr → (set5 W gr (a.length * 5) (.int .i64 y.f0) (.string y.f1) (.int .i64 y.f2) u3 u4).heap[c]? = W.heap[c]? := fun c hc => set5_far _ _ _ _ _ _ _ _ c hc
  have hgw := (hge gr (.inr (.inl hgr))).1
  refine ⟨fa ++ (fk ++ fb), ((((h.dr.put (by omega) _).put (by omega) _).put (by omega) _).put (by omega) _).put (by omega) _, (hmv _ (by omega)).trans h.k1, (hmv _ (by omega)).trans h.k2, (hmv _ (by omega)).trans h.k3, h3, own_move h.o3 (fun c hc => hmv c (fun e => n345 c (obs_mem.2 hc) gr (.inl hgr) e)), ?_, ?_, ?_, ?_⟩
  · have := hput (.int .i64 y.f0) (.string y.f1) (.int .i64 y.f2) u3 u4
    simpa using this
  · refine (ha.move _ (fun c hc => hmv c (fun e => n45 gr hgr c (.inl hc) e.symm))).append ?_
    refine .cons y b u3 u4 ib fk fb (ht.move y (fun c hc => hmv c (fun e => ?_))) (hb.move _ (fun c hc => hmv c (fun e => n45 gr hgr c (.inr (.inr hc)) e.symm)))
    have h1 := hkge c hc
    have h2 := hB gr (.inr (.inl hgr))
    omega
  · simp only [List.nodup_append, List.mem_append]
    refine ⟨n3, ⟨n4, ⟨na, ⟨hknd, nb, fun c hc d hd e => ?_⟩, fun c hc d hd e => ?_⟩, fun c hc d hd e => ?_⟩, fun c hc d hd e => ?_⟩
    · have := hkge c hc; have := hB d (.inr (.inr (.inr (.inr hd)))); omega
    · rcases hd with hd | hd
      · have := hkge d hd; have := hB c (.inr (.inr (.inl hc))); omega
      · exact naxb c hc d (.inr hd) e
    · rcases hd with hd | hd | hd
      · exact n45 c hc d (.inl hd) e
      · have := hkge d hd; have := hB c (.inr (.inl hc)); omega
      · exact n45 c hc d (.inr (.inr hd)) e
    · rcases hd with hd | hd | hd | hd
      · exact n345 c hc d (.inl hd) e
      · exact n345 c hc d (.inr (.inl hd)) e
      · have := hkge d hd; have := hB c (.inl hc); omega
      · exact n345 c hc d (.inr (.inr (.inr hd))) e
  · simp only [List.mem_append]
    intro c hc
    rcases hc with hc | hc | hc | hc | hc
    · exact hge c (.inl hc)
    · exact hge c (.inr (.inl hc))
    · exact hge c (.inr (.inr (.inl hc)))
    · have := hkge c hc; exact ⟨by omega, by omega⟩
    · exact hge c (.inr (.inr (.inr (.inr hc))))
theorem Dp.newF (h : Dp w0 w g s q O1 O2 g3 k n m sc ks v3 v inner fp W) (hW : ∀ b, b ≠ w.heap.size + 1 → W1.heap[b]? = W.heap[b]?) : NewF w.heap.size W1 ⟨k, n, m, sc, ks⟩ v3 v := by
  have hge := h.ge
  refine ⟨_, .mk ⟨k, n, m, sc, ks⟩ v3 v inner fp (own_move h.o3 (fun b hb => hW b ?_)) (own_move h.o4 (fun b hb => hW b ?_)) (h.tr.move _ (fun b hb => hW b ?_)), h.nd, fun b hb => ?_⟩
  · have := hge b (by simp [obs_mem, hb]); omega
  · have := hge b (by simp [obs_mem, hb]); omega
  · have := hge b (by simp [hb]); omega
  · have := hge b hb; omega
/-- The copy of a form is laid into its variable. -/
theorem Dp.start {w1 : World} {x : Fm} (hd : Dr w0 w g s q w1) (hk1 : w1.heap[w.heap.size]? = some O1) (hk2 : w1.heap[w.heap.size + 1]? = some O2) (hn : NewF (w.heap.size + 2) w1 x v3 v) : ∃ inner fp, Dp w0 w g s q O1 O2 w1.heap.size x.f0 x.f1 x.f2 x.f3 x.f4 v3 v inner fp (w1.alloc (.cells #[.int .i64 x.f0, .string x.f1, .int .i64 x.f2, v3, v] 31 (0, 0))) := by
  obtain ⟨fp, ht, hnd, hge⟩ := hn
  have hb := below_new w1 (.cells #[.int .i64 x.f0, .string x.f1, .int .i64 x.f2, v3, v] 31 (0, 0))
  have hlt := ht.lt x
  have h2 := blk_lt hk2
  obtain ⟨inner, fk, rfl, o3, o4, hk⟩ := ht.open
  refine ⟨inner, fk, hd.later hb, blk_below hk1 hb, blk_below hk2 hb, blk_new _ _, by omega, own_move o3 (fun b hb2 => hb.block b (hlt b (by simp [obs_mem, hb2]))), own_move o4 (fun b hb2 => hb.block b (hlt b (by simp [obs_mem, hb2]))), hk.later hb, hnd, fun b hb2 => ⟨hge b hb2, by have := hlt b hb2; omega⟩⟩
end
end Go.Proofs.Yteonncnhhccgeaa
end
section
namespace Go.Proofs.Yteonncnhhccgeaa
open Go.RowKit Go.Proofs.YteonncnhhccgeaaW.PrintWords Go.Proofs.Yteonncnhhccgeaa.Q
set_option linter.unusedVariables false
theorem bits_xor (a b : Nat) (ha : a < 2 ^ 40) (hb : b < 2 ^ 40) : bits .xor .i64 (a : Int) (b : Int) = ((a ^^^ b : Nat) : Int) := by
  have hp : (2 : Nat) ^ 40 ≤ 2 ^ IntKind.i64.bits := Nat.pow_le_pow_right (by decide) (by decide)
  have ha' : a % 2 ^ IntKind.i64.bits = a := Nat.mod_eq_of_lt (Nat.lt_of_lt_of_le ha hp)
  have hb' : b % 2 ^ IntKind.i64.bits = b := Nat.mod_eq_of_lt (Nat.lt_of_lt_of_le hb hp)
  simp only [bits, BitVec.ofInt_natCast, BitVec.toNat_xor, BitVec.toNat_ofNat, ha', hb']
  have h : a ^^^ b < 2 ^ 40 := Nat.xor_lt_two_pow ha hb
  rw [IntKind.wrap_i64]
  omega
/-- The bytes of an input. -/
def Bts (s : List Int) : Prop := s.length ≤ 2000 ∧ ∀ z, z ∈ s → 0 ≤ z ∧ z < 256
theorem rd_bts {s : List Int} (h : ∀ z, z ∈ s → 0 ≤ z ∧ z < 256) (i : Int) : 0 ≤ rd s i ∧ rd s i < 256 := by
  simp only [rd, List.getD]
  by_cases hi : i.toNat < s.length
  · rw [List.getElem?_eq_getElem hi]; exact h _ (List.getElem_mem hi)
  · rw [List.getElem?_eq_none (by omega)]; simp
theorem wr_in {n : Int} (h0 : 0 ≤ n) (h1 : n < 4611686018427387904) : wrap64 n = n := Go.IntWalk.wrap64_in _ ⟨by omega, by omega⟩
theorem wrN {m : Int} {n : Nat} (h : m = (n : Int)) (hn : n < 4611686018427387904) : wrap64 m = (n : Int) := by
  subst h
  exact wr_in (by omega) (by omega)
theorem pick_num (a c p dv u : Nat) (ha : a < 256) (hc : c < 256) (hp : p ≤ 1000000) (hd : dv ≤ p) (eu : u = a * 131 + c * 1117 + p * 29 + dv * 53) :
    wrap64 (a : Int) = (a : Int) ∧ wrap64 (c : Int) = (c : Int) ∧ wrap64 ((a : Int) * 131) = ((a * 131 : Nat) : Int) ∧ wrap64 ((c : Int) * 1117) = ((c * 1117 : Nat) : Int) ∧
    wrap64 (((a * 131 : Nat) : Int) + ((c * 1117 : Nat) : Int)) = ((a * 131 + c * 1117 : Nat) : Int) ∧ wrap64 ((p : Int) * 29) = ((p * 29 : Nat) : Int) ∧
    wrap64 (((a * 131 + c * 1117 : Nat) : Int) + ((p * 29 : Nat) : Int)) = ((a * 131 + c * 1117 + p * 29 : Nat) : Int) ∧ wrap64 (dv : Int) = (dv : Int) ∧
    wrap64 ((dv : Int) * 53) = ((dv * 53 : Nat) : Int) ∧ wrap64 (((a * 131 + c * 1117 + p * 29 : Nat) : Int) + ((dv * 53 : Nat) : Int)) = (u : Int) ∧
    wrap64 ((u / 64 : Nat) : Int) = ((u / 64 : Nat) : Int) ∧ bits .xor .i64 (u : Int) ((u / 64 : Nat) : Int) = ((u ^^^ (u / 64) : Nat) : Int) := by
  have hu : u < 1000000000 := by omega
  refine ⟨wrN rfl (by omega), wrN rfl (by omega), wrN (by simp) (by omega), wrN (by simp) (by omega), wrN (by simp) (by omega), wrN (by simp) (by omega), wrN (by simp) (by omega), wrN rfl (by omega), wrN (by simp) (by omega), wrN (by subst eu; simp) (by omega), wrN rfl (by omega), bits_xor _ _ (by omega) (by omega)⟩
theorem ev_pick {s : List Int} (hs : Bts s) (p : Nat) (hp : p ≤ 1000000) (n : Int) (hn : n ≤ 1000000) :
    ∃ v : Int, (1 ≤ n → 0 ≤ v ∧ v < n) ∧ Ev (fun k => spec_l15Rd_pick.f k s (p : Int) n) (v, ((p + 1 : Nat) : Int)) := by
  obtain ⟨hl, hb⟩ := hs
  have e1 : wrap64 ((p : Int) + 1) = ((p + 1 : Nat) : Int) := wr1 p (by omega)
  have e2 : wrap64 (((p + 1 : Nat) : Int) - 1) = (p : Int) := by rw [wr_in (by omega) (by omega)]; omega
  by_cases h1 : n < 1
  · refine ⟨0, fun h => by omega, ?_⟩
    simp only [spec_l15Rd_pick.f]
    refine Ev.pos h1 (Ev.step (fun k => by rw [spec_l15Rd_pick.j0]) (Ev.pos rfl ?_))
    rw [e1]; exact Ev.now _
  · by_cases h2 : s.length = 0
    · refine ⟨0, fun h => by omega, ?_⟩
      simp only [spec_l15Rd_pick.f]
      refine Ev.neg h1 (Ev.step (fun k => by rw [spec_l15Rd_pick.j0]) (Ev.pos (by simp [h2]) ?_))
      rw [e1]; exact Ev.now _
    · have h0 : (s.length : Int) ≠ 0 := by omega
      by_cases h3 : (p : Int) < (s.length : Int)
      · have hv := rd_bts hb (p : Int)
        refine ⟨Int.tmod (rd s p) n, fun h => ⟨Int.tmod_nonneg _ hv.1, Int.tmod_lt_of_pos _ (by omega)⟩, ?_⟩
        simp only [spec_l15Rd_pick.f]
        refine Ev.neg h1 (Ev.step (fun k => by rw [spec_l15Rd_pick.j0]) (Ev.neg (by simpa using h0) ?_))
        rw [e1, e2, wr_in hv.1 (by omega)]
        exact Ev.pos h3 (Ev.pos (by omega) (Ev.neg (by omega) (Ev.now _)))
      · obtain ⟨q, eq⟩ : ∃ q : Nat, q = p % s.length := ⟨_, rfl⟩
        obtain ⟨t, et⟩ : ∃ t : Nat, t = (p * 7 + 3) % s.length := ⟨_, rfl⟩
        obtain ⟨dv, ed⟩ : ∃ dv : Nat, dv = p / s.length := ⟨_, rfl⟩
        have hq : q < s.length := by rw [eq]; exact Nat.mod_lt _ (by omega)
        have ht : t < s.length := by rw [et]; exact Nat.mod_lt _ (by omega)
        have hd : dv ≤ p := by rw [ed]; exact Nat.div_le_self _ _
        have m1 : Int.tmod (p : Int) (s.length : Int) = (q : Int) := by rw [eq]; exact Go.IntWalk.up_tmod rfl rfl
        have w1 : wrap64 ((p : Int) * 7) = ((p * 7 : Nat) : Int) := wrN (by omega) (by omega)
        have w2 : wrap64 (((p * 7 : Nat) : Int) + 3) = ((p * 7 + 3 : Nat) : Int) := wrN (by omega) (by omega)
        have m2 : Int.tmod ((p * 7 + 3 : Nat) : Int) (s.length : Int) = (t : Int) := by rw [et]; exact Go.IntWalk.up_tmod rfl rfl
        have ha := rd_bts hb (q : Int)
        have hc := rd_bts hb (t : Int)
        obtain ⟨a, ea⟩ := Int.eq_ofNat_of_zero_le ha.1
        obtain ⟨c, ec⟩ := Int.eq_ofNat_of_zero_le hc.1
        have d1 : Int.tdiv (p : Int) (s.length : Int) = (dv : Int) := by rw [ed]; exact Go.IntWalk.up_tdiv rfl rfl
        rw [ea] at ha
        rw [ec] at hc
        obtain ⟨u, eu⟩ : ∃ u : Nat, u = a * 131 + c * 1117 + p * 29 + dv * 53 := ⟨_, rfl⟩
        clear eq et ed
        obtain ⟨wa, wc, wa2, wc2, w3, w4, w5, w6, w7, w8, w9, wb⟩ := pick_num a c p dv u (Int.ofNat_lt.1 ha.2) (Int.ofNat_lt.1 hc.2) hp hd eu
        have d2 : Int.tdiv (u : Int) 64 = ((u / 64 : Nat) : Int) := Go.IntWalk.up_tdiv rfl rfl
        refine ⟨Int.tmod ((u ^^^ (u / 64) : Nat) : Int) n, fun h => ⟨Int.tmod_nonneg _ (by omega), Int.tmod_lt_of_pos _ (by omega)⟩, ?_⟩
        simp only [spec_l15Rd_pick.f]
        refine Ev.neg h1 (Ev.step (fun k => by rw [spec_l15Rd_pick.j0]) (Ev.neg (by simpa using h0) ?_))
        simp only [e1, e2, w1, w2, m1, m2, d1, ea, ec, wa, wc, wa2, wc2, w3, w4, w5, w6, w7, w8, d2, w9, wb]
        exact Ev.neg h3 (Ev.neg h0 (Ev.pos (by omega) (Ev.pos (by omega) (Ev.pos (by omega) (Ev.pos (by omega) (Ev.neg (by omega) (Ev.now _)))))))
theorem ev_num {s : List Int} (hs : Bts s) (p : Nat) (hp : p ≤ 1000000) (l : List Int) (h1 : l ≠ []) (h2 : l.length ≤ 1000) :
    ∃ v : Int, v ∈ l ∧ Ev (fun k => spec_l15Rd_num.f k s (p : Int) l) (v, ((p + 1 : Nat) : Int)) := by
  have hl : 0 < l.length := List.length_pos_iff.2 h1
  obtain ⟨v, hv, he⟩ := ev_pick hs p hp (l.length : Int) (by omega)
  obtain ⟨h0, hn⟩ := hv (by omega)
  refine ⟨rd l v, ?_, ?_⟩
  · have : v.toNat < l.length := by omega
    simp only [rd, List.getD, List.getElem?_eq_getElem this, Option.getD_some]
    exact List.getElem_mem this
  · simp only [spec_l15Rd_num.f]
    exact Ev.bind he (Ev.pos h0 (Ev.pos hn (Ev.now _)))
theorem ev_of {s : List Int} (hs : Bts s) (p : Nat) (hp : p ≤ 1000000) (l : List ByteArray) (h1 : l ≠ []) (h2 : l.length ≤ 1000) :
    ∃ v : ByteArray, v ∈ l ∧ Ev (fun k => spec_l15Rd_of.f k s (p : Int) l) (v, ((p + 1 : Nat) : Int)) := by
  have hl : 0 < l.length := List.length_pos_iff.2 h1
  obtain ⟨v, hv, he⟩ := ev_pick hs p hp (l.length : Int) (by omega)
  obtain ⟨h0, hn⟩ := hv (by omega)
  refine ⟨rdOf ByteArray.empty l v, ?_, ?_⟩
  · have : v.toNat < l.length := by omega
    simp only [rdOf, List.getD, List.getElem?_eq_getElem this, Option.getD_some]
    exact List.getElem_mem this
  · simp only [spec_l15Rd_of.f]
    exact Ev.bind he (Ev.pos h0 (Ev.pos hn (Ev.now _)))
theorem ev_open (l : List Int) (h : ∀ z, z ∈ l → 0 ≤ z ∧ z < 256) : ∃ s, Bts s ∧ spec_l15Open.f l = some (s, 0) := by
  unfold spec_l15Open.f
  by_cases h2 : (l.length : Int) > 2000
  · rw [if_pos h2, if_pos (by omega)]
    exact ⟨_, ⟨by simp; omega, fun z hz => h z (List.mem_of_mem_take hz)⟩, rfl⟩
  · rw [if_neg h2]
    exact ⟨_, ⟨by omega, h⟩, rfl⟩
end Go.Proofs.Yteonncnhhccgeaa
end
section
namespace Go.Proofs.Yteonncnhhccgeaa
open Go.RowKit Go.Proofs.YteonncnhhccgeaaW.PrintWords Go.Proofs.YteonncnhhccgeaaW.PrintLast Go.Proofs.YteonncnhhccgeaaW.PrintMore
set_option linter.unusedVariables false
set_option linter.unusedSimpArgs false
/-- What a function that draws a form leaves. -/
def DrPost (w0 : World) (g : Nat) (s : List Int) (q : Int) (y : Fm) (w : World) (e : Ending) (w' : World) : Prop :=
  ∃ v3 v4, e = .returned (.agg #[.int .i64 y.f0, .string y.f1, .int .i64 y.f2, v3, v4]) ∧ NewF w.heap.size w' y v3 v4 ∧ IsRd w0 w' g s q ∧ Below w0.heap.size w0 w' ∧ KeepBut w w' g none
def DressOk (s : List Int) (x : Fm) (p : Nat) (y : Fm) (q : Nat) : Prop := ∀ (g : Nat) (A3 : Option Addr) (c3 : Nat) (A4 : Option Addr) (c4 : Nat) (w0 w : World), IsRd w0 w g s (p : Int) → Below w0.heap.size w0 w → FmIn w x A3 c3 A4 c4 →
  Calls Try.prog 113 #[.pointer (some ⟨g, 0, none⟩), .agg #[.int .i64 x.f0, .string x.f1, .int .i64 x.f2, .slice A3 x.f3.length c3, .slice A4 x.f4.length c4]] w (DrPost w0 g s (q : Int) y w)
theorem add_plain (b i : Nat) : (⟨b, 0, none⟩ : Addr).add i = ⟨b, i, none⟩ := by unfold Addr.add; split <;> simp_all
/-- A block of numbers reads as_ a row. -/
theorem reads_block {W : World} {b : Nat} {cs : Array Value} {l : List Int} (hb : W.heap[b]? = some (.cells cs 3 (0, 0))) (hl : l.length ≤ 1000) (hcs : cs.toList = l.map (Value.int .i64)) : kI.C W (some ⟨b, 0, none⟩) l.length l := by
  refine Kd.C_of_reads (d := (0 : Int)) (h1 := fun _ => rfl) ⟨rfl, by omega, fun hn => ⟨⟨b, 0, none⟩, rfl, fun i hi => ?_⟩⟩
  rw [add_plain, blk_cell hb i]
  have h9 := congrArg (fun z => z[i]?) hcs
  simp only [Array.getElem?_toList, List.getElem?_map] at h9
  rw [h9, List.getElem?_eq_getElem hi, List.getD_eq_getElem?_getD, List.getElem?_eq_getElem hi]
  rfl
theorem alloc_at (w : World) (o : Obj) (k : Nat) : (w.alloc o).heap[k]? = if k = w.heap.size then some o else w.heap[k]? := by
  show (w.heap.push o)[k]? = _
  rw [Array.getElem?_push]
theorem alloc_size (w : World) (o : Obj) : (w.alloc o).heap.size = w.heap.size + 1 := by simp
abbrev sets7 : List (List Int) := [(([] : List Int)), (([1] : List Int)), (([2] : List Int)), (([1, 2] : List Int)), (([1, 3] : List Int)), (([1, 2, 3] : List Int)), (([99] : List Int))]
/-- The seven sets, laid one behind the other from block B on; the row of them; an empty row. -/
theorem sets_lit {U W2 : World} {B : Nat} (hB : U.heap.size = B) (hW : ∀ b, B ≤ b → b < B + 9 → W2.heap[b]? = (((((((((U.alloc (.cells #[] 3)).alloc (.cells #[.int .i64 1] 3)).alloc (.cells #[.int .i64 2] 3)).alloc (.cells #[.int .i64 1, .int .i64 2] 3)).alloc (.cells #[.int .i64 1, .int .i64 3] 3)).alloc (.cells #[.int .i64 1, .int .i64 2, .int .i64 3] 3)).alloc (.cells #[.int .i64 99] 3)).alloc (.cells #[.slice (some ⟨B, 0, none⟩) 0 0, .slice (some ⟨B + 1, 0, none⟩) 1 1, .slice (some ⟨B + 1 + 1, 0, none⟩) 1 1, .slice (some ⟨B + 1 + 1 + 1, 0, none⟩) 2 2, .slice (some ⟨B + 1 + 1 + 1 + 1, 0, none⟩) 2 2, .slice (some ⟨B + 1 + 1 + 1 + 1 + 1, 0, none⟩) 3 3, .slice (some ⟨B + 1 + 1 + 1 + 1 + 1 + 1, 0, none⟩) 1 1] 23)).alloc (.cells #[] 3)).heap[b]?) (j : Nat) (hj : j < 7) :
    ∃ A c, W2.cell? ⟨B + 1 + 1 + 1 + 1 + 1 + 1 + 1, j, none⟩ = some (.slice A (sets7[j]'hj).length c) ∧ (sets7[j]'hj).length ≤ c ∧ kI.C W2 A (sets7[j]'hj).length (sets7[j]'hj) ∧ W2.heap[B + 1 + 1 + 1 + 1 + 1 + 1 + 1 + 1]? = some (.cells #[] 3 (0, 0)) := by
  subst hB
  have h0 := hW U.heap.size (by omega) (by omega)
  have h1 := hW (U.heap.size + 1) (by omega) (by omega)
  have h2 := hW (U.heap.size + 2) (by omega) (by omega)
  have h3 := hW (U.heap.size + 3) (by omega) (by omega)
  have h4 := hW (U.heap.size + 4) (by omega) (by omega)
  have h5 := hW (U.heap.size + 5) (by omega) (by omega)
  have h6 := hW (U.heap.size + 6) (by omega) (by omega)
  have h7 := hW (U.heap.size + 7) (by omega) (by omega)
  have h8 := hW (U.heap.size + 8) (by omega) (by omega)
  clear hW
  simp only [alloc_at, alloc_size] at h0 h1 h2 h3 h4 h5 h6 h7 h8
  repeat (first | rw [if_pos (by omega)] at h0 | rw [if_neg (by omega)] at h0)
  repeat (first | rw [if_pos (by omega)] at h1 | rw [if_neg (by omega)] at h1)
  repeat (first | rw [if_pos (by omega)] at h2 | rw [if_neg (by omega)] at h2)
  repeat (first | rw [if_pos (by omega)] at h3 | rw [if_neg (by omega)] at h3)
  repeat (first | rw [if_pos (by omega)] at h4 | rw [if_neg (by omega)] at h4)
  repeat (first | rw [if_pos (by omega)] at h5 | rw [if_neg (by omega)] at h5)
  repeat (first | rw [if_pos (by omega)] at h6 | rw [if_neg (by omega)] at h6)
  repeat (first | rw [if_pos (by omega)] at h7 | rw [if_neg (by omega)] at h7)
  repeat (first | rw [if_pos (by omega)] at h8 | rw [if_neg (by omega)] at h8)
  have hcell : ∀ (b : Nat) (cs : Array Value) (u : Value) (i : Nat) (e : TypeId), W2.heap[b]? = some (.cells cs e (0, 0)) → cs[i]? = some u → W2.cell? ⟨b, i, none⟩ = some u := fun b cs u i e hb hu => (blk_cell hb i).trans hu
  rcases (show j = 0 ∨ j = 1 ∨ j = 2 ∨ j = 3 ∨ j = 4 ∨ j = 5 ∨ j = 6 by omega) with rfl | rfl | rfl | rfl | rfl | rfl | rfl
  · exact ⟨_, _, hcell _ _ _ _ _ h7 rfl, Nat.le_refl _, reads_block h0 (by simp) rfl, h8⟩
  · exact ⟨_, _, hcell _ _ _ _ _ h7 rfl, Nat.le_refl _, reads_block h1 (by simp) rfl, h8⟩
  · exact ⟨_, _, hcell _ _ _ _ _ h7 rfl, Nat.le_refl _, reads_block h2 (by simp) rfl, h8⟩
  · exact ⟨_, _, hcell _ _ _ _ _ h7 rfl, Nat.le_refl _, reads_block h3 (by simp) rfl, h8⟩
  · exact ⟨_, _, hcell _ _ _ _ _ h7 rfl, Nat.le_refl _, reads_block h4 (by simp) rfl, h8⟩
  · exact ⟨_, _, hcell _ _ _ _ _ h7 rfl, Nat.le_refl _, reads_block h5 (by simp) rfl, h8⟩
  · exact ⟨_, _, hcell _ _ _ _ _ h7 rfl, Nat.le_refl _, reads_block h6 (by simp) rfl, h8⟩
/-- The last five stores: the form goes into the result. -/
theorem Dr.put5 {w0 w W : World} {g : Nat} {s : List Int} {q : Int} (h : Dr w0 w g s q W) {b : Nat} (hb : w.heap.size ≤ b) (u0 u1 u2 u3 u4 : Value) : Dr w0 w g s q (((((W.setCell ⟨b, 0, none⟩ u0).setCell ⟨b, 1, none⟩ u1).setCell ⟨b, 2, none⟩ u2).setCell ⟨b, 3, none⟩ u3).setCell ⟨b, 4, none⟩ u4) :=
  ((((h.put hb _).put hb _).put hb _).put hb _).put hb _
set_option maxHeartbeats 4000000 in
set_option maxRecDepth 100000 in
theorem dress_walk {s : List Int} (x : Fm) (p p1 q : Nat) (j : Nat) (hj : j < 7) (y3 : List Int) (ys : List Fm) (ps : Nat → Nat) (ht : x.tot ≤ 100000) (hpick : Ev (fun k => Q.spec_l15Rd_pick.f k s (p : Int) 7) ((j : Int), ((p + 1 : Nat) : Int)))
    (h1 : p1 = if x.f0 = 1 then p + 1 else p) (h3 : y3 = if x.f0 = 1 then sets7[j] else x.f3) (hyl : ys.length = x.f4.length) (hp0 : ps 0 = p1) (hpn : ps x.f4.length = q) (hys : ∀ (i : Nat) (hi : i < x.f4.length) (hi2 : i < ys.length), DressOk s x.f4[i] (ps i) ys[i] (ps (i + 1))) : DressOk s x p ⟨x.f0, x.f1, x.f2, y3, ys⟩ q := by
  intro g A3 c3 A4 c4 w0 w hi hb hin
  have hmax := hin.g4.2.1
  have HI := Lib.hid hin
  have HD0 := Lib.hid (Dr.new hi hb)
  have HT := Lib.hid ht
  have H1 := Lib.hid h1
  have H3 := Lib.hid h3
  have HYL := Lib.hid hyl
  have HP0 := Lib.hid hp0
  have HPN := Lib.hid hpn
  have HYS := Lib.hid hys
  have HJ := Lib.hid hj
  obtain ⟨kp, hkp⟩ := hpick.rounds
  have HKP := Lib.hid hkp
  have r1 : (0 : Int) ≤ (j : Int) := by omega
  have r2 : (j : Int) < 7 := by omega
  have hlen := len_totL x.f4
  have hxt := x.tot_eq
  have HLN := Lib.hid (show x.f4.length ≤ 100000 by omega)
  clear hin hi hb ht h1 h3 hp0 hpn hys hpick hkp hlen hxt hyl
  go_enter Try.func113, Try.ntmps113
  go_wp2_with fail
  refine (l1Copy_any x A3 c3 A4 c4 _ (HI.out.below (below_step (below_new _ _) (below_new _ _))) (by have := HT.out; omega)).mono ?_
  rintro e w1 ⟨u3, u4, rfl, hn, hb1⟩
  obtain ⟨J3, q3, J4, q4, rfl, rfl⟩ : ∃ J3 q3 J4 q4, u3 = .slice J3 x.f3.length q3 ∧ u4 = .slice J4 x.f4.length q4 := by
    obtain ⟨fk, hk2, _⟩ := hn
    obtain ⟨J3, q3, J4, q4, e3, e4, _⟩ := hk2.In
    exact ⟨J3, q3, J4, q4, e3, e4⟩
  obtain ⟨k1, k2, b1⟩ := two_new hb1
  rw [show ((w.alloc (.cells #[.int .i64 x.f0, .string x.f1, .int .i64 x.f2, .slice A3 x.f3.length c3, .slice A4 x.f4.length c4] 31)).alloc (.cells #[.int .i64 0, .string ⟨#[]⟩, .int .i64 0, .slice none 0 0, .slice none 0 0] 31)).heap.size = w.heap.size + 2 from by simp] at hn
  obtain ⟨inner, fp, hdp⟩ := Dp.start (HD0.out.later b1) k1 k2 hn
  have HDP := Lib.hid hdp
  obtain ⟨p0, p1_, p2, p3, p4⟩ := fm_cells (blk_below k1 (below_new w1 (.cells #[.int .i64 x.f0, .string x.f1, .int .i64 x.f2, .slice J3 x.f3.length q3, .slice J4 x.f4.length q4] 31 (0, 0))))
  clear hb1 hn k1 k2 b1 hdp
  go_upto_if 12 with fail
  (try simp only [Act.put, List.setIfInBounds_toArray, List.set_cons_zero, List.set_cons_succ])
  go_cut [] (fun wc => ∃ (D3 : Option Addr) (e3 : Nat) (inner : List Value) (fp : List Nat), Aside0 (Dp w0 w g s (p1 : Int) (.cells #[.int .i64 x.f0, .string x.f1, .int .i64 x.f2, .slice A3 x.f3.length c3, .slice A4 x.f4.length c4] 31) (.cells #[.int .i64 0, .string ⟨#[]⟩, .int .i64 0, .slice none 0 0, .slice none 0 0] 31) w1.heap.size x.f0 x.f1 x.f2 y3 x.f4 (.slice D3 y3.length e3) (.slice J4 x.f4.length q4) inner fp wc))
  case first =>
    by_cases hk : x.f0 = 1
    · have t1 : (x.f0 == 1) = true := beq_iff_eq.mpr hk
      have HX1 := Lib.hid hk
      clear hk
      (first | rw [t1] | skip)
      go_wp2_with fail
      refine (Q.spec_l15Rd_pick.calls kp g s (p : Int) 7 (j : Int) _ w0 _ (HDP.out.dr.later (by repeat (first | exact Below.refl _ _ | refine below_alloc ?_ _))).is (HDP.out.dr.later (by repeat (first | exact Below.refl _ _ | refine below_alloc ?_ _))).b HKP.out).mono ?_
      rintro e w2 ⟨rfl, hi2, hb2, hk2⟩
      have hset := sets_lit (U := w1.alloc (.cells #[.int .i64 x.f0, .string x.f1, .int .i64 x.f2, .slice J3 x.f3.length q3, .slice J4 x.f4.length q4] 31 (0, 0))) (W2 := w2) (B := w1.heap.size + 1) (by simp) (fun b hb1 hb2 => hk2.2 b (by simp only [alloc_size]; omega) (by have := HDP.out.dr.lt; have := HDP.out.h3; omega) (by simp)) j HJ.out
      obtain ⟨As, cs, hcell, hcl, hC, hemp⟩ := hset
      have hdp2 := (HDP.out.later (by repeat (first | exact Below.refl _ _ | refine below_alloc ?_ _))).call hi2 hb2 hk2
      have hfr := HDP.out.fresh (b := w1.heap.size + 1 + 1 + 1 + 1 + 1 + 1 + 1 + 1 + 1) (by simp only [alloc_size]; omega)
      have hR0 : kI.R 3 w2 (w1.heap.size + 1) (fun _ => True) (.slice (some ⟨w1.heap.size + 1 + 1 + 1 + 1 + 1 + 1 + 1 + 1 + 1, 0, none⟩) 0 0) [] :=
        Kd.R_of_own ⟨by simp [encs], .inr ⟨_, 0, #[], rfl, by omega, hemp, Nat.le_refl _, Nat.zero_le _, by simp, by simp [encs]⟩⟩ (fun _ _ => trivial)
      have hl7 : (sets7[j]'HJ.out).length ≤ 3 := by
        rcases (show j = 0 ∨ j = 1 ∨ j = 2 ∨ j = 3 ∨ j = 4 ∨ j = 5 ∨ j = 6 by have := HJ.out; omega) with rfl | rfl | rfl | rfl | rfl | rfl | rfl <;> simp
      have HL7 := Lib.hid hl7
      have HR0 := Aside0.mk hR0
      have HCC := Aside0.mk hC
      have HD2 := Lib.hid hdp2
      have HFR := Lib.hid hfr
      have HEL := Lib.hid (blk_lt hemp)
      clear hi2 hb2 hk2 hcl hC hemp hdp2 hfr hR0 hl7
      go_wp2_with (first | ((with_reducible refine gate_dst (N := 29) rfl ?_); refine Kd.R_append_row (Value.int .i64) (0 : Int) (w0 := w2) (w1.heap.size + 1) rfl (.tmp 21) (.tmp 28) 23 3 (.int .i64 0) 8 rfl Try.underlying23 infoI rfl (by decide) (.slice (some ⟨w1.heap.size + 1 + 1 + 1 + 1 + 1 + 1 + 1 + 1 + 1, 0, none⟩) 0 0) [] (sets7[j]'HJ.out) As (sets7[j]'HJ.out).length cs (fun _ => True) rfl rfl (fun _ _ => trivial) HR0.out HCC.out (Below.refl _ _) (by have := HEL.out; omega) (by have := HL7.out; simp; omega) ?_; intro v5 w3 ho5 hb5 hg5 hat5; rw [List.nil_append] at ho5; obtain ⟨D5, e5, e6⟩ := Kd.R_slice ho5; subst e6; have hbox3 := blk_grown HD2.out.k3 hg5 (by simp only [Value.ownBlock, ne_eq, Option.some.injEq]; omega); have z3 := (fm_cells hbox3).2.2.2.1; have f3 := (fm_free hbox3).2.2.2.1; have HO5 := Aside0.mk ho5; have HG5 := Lib.hid (And.intro hg5 hat5); clear hbox3 ho5 hb5 hg5 hat5))
      go_meet
      case rel =>
        have hq := H1.out
        have hy := H3.out
        rw [if_pos HX1.out] at hq hy
        rw [hq, hy]
        refine ⟨D5, e5, inner, fp, ⟨HD2.out.scopes HG5.out.1 (fun b hb => ?_) (own_weaken (Kd.own_of_R HO5.out) (Nat.zero_le _)) (fun b hb => ?_)⟩⟩
        · have e : b = w1.heap.size + 1 + 1 + 1 + 1 + 1 + 1 + 1 + 1 + 1 := by simpa [Value.ownBlock] using hb.symm
          rw [e]; exact HFR.out
        · rcases HG5.out.2 with h | ⟨c, h, hc⟩
          · rw [h] at hb
            have e : b = w1.heap.size + 1 + 1 + 1 + 1 + 1 + 1 + 1 + 1 + 1 := by simpa [Value.ownBlock] using hb.symm
            rw [e]; exact HFR.out
          · rw [h] at hb
            cases hb
            exact HD2.out.fresh hc
    · have t1 : (x.f0 == 1) = false := beq_eq_false_iff_ne.mpr hk
      have HX1 := Lib.hid hk
      clear hk
      (first | rw [t1] | skip)
      go_wp2
      go_meet
      case rel =>
        have hq := H1.out
        have hy := H3.out
        rw [if_neg HX1.out] at hq hy
        rw [hq, hy]
        exact ⟨J3, q3, inner, fp, ⟨HDP.out⟩⟩
  case rest =>
    obtain ⟨D3, e3, inner0, fp0, HCP⟩ := hcut
    clear HDP p0 p1_ p2 p3 p4 inner fp
    go_wp2_with fail
    go_loopg [7] x.f4.length (fun kq v7 w' => ∃ i : Nat, i ≤ x.f4.length ∧ x.f4.length - i ≤ kq ∧ v7 = .int .i64 i ∧ Aside0 (∃ inner fp, Dp w0 w g s (ps i : Int) (.cells #[.int .i64 x.f0, .string x.f1, .int .i64 x.f2, .slice A3 x.f3.length c3, .slice A4 x.f4.length c4] 31) (.cells #[.int .i64 0, .string ⟨#[]⟩, .int .i64 0, .slice none 0 0, .slice none 0 0] 31) w1.heap.size x.f0 x.f1 x.f2 y3 (ys.take i ++ x.f4.drop i) (.slice D3 y3.length e3) (.slice J4 x.f4.length q4) inner fp w'))
    case atStart => exact ⟨0, Nat.zero_le _, by omega, rfl, ⟨⟨inner0, fp0, by rw [HP0.out]; simpa using HCP.out⟩⟩⟩
    case round =>
      obtain ⟨i, hi, hg, rfl, HO⟩ := hrel
      by_cases hlt : i < x.f4.length
      · obtain ⟨inner, fp, hC⟩ := HO.out
        have hyl2 := HYL.out
        have hlen : (ys.take i ++ x.f4.drop i).length = x.f4.length := by simp; omega
        have ho4 := hC.o4
        rw [hlen] at ho4
        obtain ⟨gr, cap, e, hgr0, hgr1⟩ := ho4.form (by omega)
        obtain ⟨rfl, rfl⟩ : J4 = some ⟨gr, 0, none⟩ ∧ q4 = cap := by injection e with e1 _ e2; exact ⟨e1, e2⟩
        clear e
        have htr := hC.tr
        rw [List.drop_eq_getElem_cons hlt] at htr
        obtain ⟨ia, ib0, fa, fb0, rfl, rfl, hta, htb0⟩ := TrL.split _ htr
        obtain ⟨z3, z4, ib, fx, fb, rfl, rfl, htx, htb⟩ := TrL.cons_inv htb0
        have hla := hta.len
        rw [List.length_take, Nat.min_eq_left (by omega)] at hla
        obtain ⟨G3, m3, G4, m4, rfl, rfl, hkin⟩ := htx.In
        have HLEN := Lib.hid hlen
        have HTA := Lib.hid hta
        have HTB := Lib.hid htb
        have HLA := Lib.hid hla
        have HKIN := Lib.hid hkin
        have HC := Lib.hid hC
        have SK := Lib.hid (fun (W : World) (q' : Int) (h : Dp w0 w g s q' (.cells #[.int .i64 x.f0, .string x.f1, .int .i64 x.f2, .slice A3 x.f3.length c3, .slice A4 x.f4.length c4] 31) (.cells #[.int .i64 0, .string ⟨#[]⟩, .int .i64 0, .slice none 0 0, .slice none 0 0] 31) w1.heap.size x.f0 x.f1 x.f2 y3 (ys.take i ++ x.f4.drop i) (.slice D3 y3.length e3) (.slice (some ⟨gr, 0, none⟩) x.f4.length q4) (ia ++ ([.int .i64 x.f4[i].f0, .string x.f4[i].f1, .int .i64 x.f4[i].f2, .slice G3 x.f4[i].f3.length m3, .slice G4 x.f4[i].f4.length m4] ++ ib)) (fa ++ (fx ++ fb)) W) => (⟨(fm_cells h.k3).2.2.2.2, (row_put (by have := h.o4; rw [hlen] at this; exact this) hla).1⟩ : W.cell? ⟨w1.heap.size, 4, none⟩ = some (.slice (some ⟨gr, 0, none⟩) x.f4.length q4) ∧ W.cell? ⟨gr, i * 5, none⟩ = some (.int .i64 x.f4[i].f0) ∧ W.cell? ⟨gr, i * 5 + 1, none⟩ = some (.string x.f4[i].f1) ∧ W.cell? ⟨gr, i * 5 + 2, none⟩ = some (.int .i64 x.f4[i].f2) ∧ W.cell? ⟨gr, i * 5 + 3, none⟩ = some (.slice G3 x.f4[i].f3.length m3) ∧ W.cell? ⟨gr, i * 5 + 4, none⟩ = some (.slice G4 x.f4[i].f4.length m4)))
        have hp4 := (SK.out _ _ hC).1
        have s1 : (0 : Int) ≤ (i : Int) := by omega
        have s2 : (i : Int) < (x.f4.length : Int) := by omega
        clear hC hlen ho4 htr hta htb htb0 htx hla hkin hyl2 HO hgr0 hgr1
        go_wp2_with fail
        have HD := Lib.hid (HC.out.later (below_drew (Below.refl _ _)))
        have HKD := Lib.hid (HKIN.out.below (below_drew (Below.refl _ _)))
        have HDK := Lib.hid (fun b (hb : b < wr.heap.size) => (below_drew (Below.refl wr.heap.size wr)).block b hb)
        refine start_ (n := 12) (S := fun W => W.cell? ⟨w1.heap.size, 4, none⟩ = some (.slice (some ⟨gr, 0, none⟩) x.f4.length q4) ∧ W.cell? ⟨gr, i * 5, none⟩ = some (.int .i64 x.f4[i].f0) ∧ W.cell? ⟨gr, i * 5 + 1, none⟩ = some (.string x.f4[i].f1) ∧ W.cell? ⟨gr, i * 5 + 2, none⟩ = some (.int .i64 x.f4[i].f2) ∧ W.cell? ⟨gr, i * 5 + 3, none⟩ = some (.slice G3 x.f4[i].f3.length m3) ∧ W.cell? ⟨gr, i * 5 + 4, none⟩ = some (.slice G4 x.f4[i].f4.length m4)) (ds := [11]) #[false, false, false, false, false, false, false, false, false, false, false, false] (by kernel_rfl) rfl rfl (SK.out _ _ HD.out) (fun hHeld => ?_)
        clear hp4
        generalize wr.drew = wd at HD HKD HDK hHeld ⊢
        refine pure_ (i := 0) (N := some 38) (v := ?_) (a' := ?_) #[true, false, false, false, false, false, false, false, false, false, false, false] rfl rfl (by kernel_rfl) (fun _ _ _ h => h) (Or.inl ⟨by rfl, ?_⟩) ?_ ?_
        rotate_left
        · intro w'
          go_simp
          with_reducible rfl
        rotate_left
        · simp only [Act.put, List.setIfInBounds_toArray, List.set_cons_zero, List.set_cons_succ, i64_w, i32_w]
          rfl
        refine pure_ (i := 2) (N := some 40) (v := ?_) (a' := ?_) #[true, false, true, false, false, false, false, false, false, false, false, false] rfl rfl (by kernel_rfl) (fun _ _ _ h => h) (Or.inl ⟨by rfl, ?_⟩) ?_ ?_
        rotate_left
        · intro w'
          go_simp
          with_reducible rfl
        rotate_left
        · simp only [Act.put, List.setIfInBounds_toArray, List.set_cons_zero, List.set_cons_succ, i64_w, i32_w]
          rfl
        refine pure_ (i := 3) (N := some 41) (v := ?_) (a' := ?_) #[true, false, true, true, false, false, false, false, false, false, false, false] rfl rfl (by kernel_rfl) (fun _ _ _ h => h) (Or.inl ⟨by rfl, ?_⟩) ?_ ?_
        rotate_left
        · intro w'
          go_simp
          with_reducible rfl
        rotate_left
        · simp only [Act.put, List.setIfInBounds_toArray, List.set_cons_zero, List.set_cons_succ, i64_w, i32_w]
          rfl
        refine pure_ (i := 4) (N := some 42) (v := ?_) (a' := ?_) #[true, false, true, true, true, false, false, false, false, false, false, false] rfl rfl (by kernel_rfl) (fun _ _ _ h => h) (Or.inl ⟨by rfl, ?_⟩) ?_ ?_
        rotate_left
        · intro w'
          go_simp
          with_reducible rfl
        rotate_left
        · simp only [Act.put, List.setIfInBounds_toArray, List.set_cons_zero, List.set_cons_succ, i64_w, i32_w]
          rfl
        refine pure_ (i := 6) (N := some 44) (v := ?_) (a' := ?_) #[true, false, true, true, true, false, true, false, false, false, false, false] rfl rfl (by kernel_rfl) (fun _ _ _ h => h) (Or.inl ⟨by rfl, ?_⟩) ?_ ?_
        rotate_left
        · intro w'
          go_simp
          with_reducible rfl
        rotate_left
        · simp only [Act.put, List.setIfInBounds_toArray, List.set_cons_zero, List.set_cons_succ, i64_w, i32_w]
          rfl
        refine take_ (i := 1) (N := some 39) (v := ?_) (a' := ?_) #[true, true, true, true, true, false, true, false, false, false, false, false] rfl rfl (by kernel_rfl) (fun _ _ _ h => h) (Or.inl ⟨by rfl, ?_⟩) hHeld ?_ ?_
        rotate_left
        · rintro w' ⟨s0, e0, e1, e2, e3_, e4⟩
          go_simp
          with_reducible rfl
        rotate_left
        · simp only [Act.put, List.setIfInBounds_toArray, List.set_cons_zero, List.set_cons_succ, i64_w, i32_w]
          rfl
        refine take_ (i := 5) (N := some 43) (v := ?_) (a' := ?_) #[true, true, true, true, true, true, true, false, false, false, false, false] rfl rfl (by kernel_rfl) (fun _ _ _ h => h) (Or.inl ⟨by rfl, ?_⟩) hHeld ?_ ?_
        rotate_left
        · rintro w' ⟨s0, e0, e1, e2, e3_, e4⟩
          go_simp
          with_reducible rfl
        rotate_left
        · simp only [Act.put, List.setIfInBounds_toArray, List.set_cons_zero, List.set_cons_succ, i64_w, i32_w]
          rfl
        refine pure_ (i := 7) (N := some 45) (v := ?_) (a' := ?_) #[true, true, true, true, true, true, true, true, false, false, false, false] rfl rfl (by kernel_rfl) (fun _ _ _ h => h) (Or.inl ⟨by rfl, ?_⟩) ?_ ?_
        rotate_left
        · intro w'
          go_simp
          with_reducible rfl
        rotate_left
        · simp only [Act.put, List.setIfInBounds_toArray, List.set_cons_zero, List.set_cons_succ, i64_w, i32_w]
          rfl
        refine take_ (i := 8) (N := some 46) (v := ?_) (a' := ?_) #[true, true, true, true, true, true, true, true, true, false, false, false] rfl rfl (by kernel_rfl) (fun _ _ _ h => h) (Or.inl ⟨by rfl, ?_⟩) hHeld ?_ ?_
        rotate_left
        · rintro w' ⟨s0, e0, e1, e2, e3_, e4⟩
          go_simp
          with_reducible rfl
        rotate_left
        · simp only [Act.put, List.setIfInBounds_toArray, List.set_cons_zero, List.set_cons_succ, i64_w, i32_w]
          rfl
        refine one_ (i := 9) (N := some 47) #[true, true, true, true, true, true, true, true, true, true, false, false] rfl rfl (by kernel_rfl) (by decide) (fun K hK => ?_)
        refine goes_ Try.func113 (by kernel_rfl) rfl #[.pointer (some ⟨g, 0, none⟩), .agg #[.int .i64 x.f4[i].f0, .string x.f4[i].f1, .int .i64 x.f4[i].f2, .slice G3 x.f4[i].f3.length m3, .slice G4 x.f4[i].f4.length m4]] (by rfl) rfl rfl (by (try simp only [List.map_toArray, List.map_cons, List.map_nil]); first | done | rfl) ?_
        refine (HYS.out i hlt (by have := HYL.out; omega) g G3 m3 G4 m4 w0 wd HD.out.dr.is HD.out.dr.b HKD.out).mono ?_
        rintro e w7 ⟨u3, u4, rfl, hn, hi7, hb7, hk7⟩
        refine ⟨_, rfl, ?_⟩
        have hy9 : i < ys.length := by have := HYL.out; omega
        obtain ⟨U3, n3_, U4, n4_, rfl, rfl⟩ : ∃ U3 n3 U4 n4, u3 = .slice U3 (ys[i]'hy9).f3.length n3 ∧ u4 = .slice U4 (ys[i]'hy9).f4.length n4 := by
          obtain ⟨fk, hk2, _⟩ := hn
          obtain ⟨J3, q3, J4, q4, e3, e4, _⟩ := hk2.In
          exact ⟨J3, q3, J4, q4, e3, e4⟩
        have H7 := Lib.hid (HD.out.call hi7 hb7 hk7)
        have HN := Lib.hid hn
        have HK7 := Lib.hid hk7
        clear hn hi7 hb7 hk7
        refine hK.out _ _ (SK.out _ _ H7.out) (fun hHeld => ?_)
        clear hK K
        refine norm_ (a' := ?_) ?_ ?_
        rotate_left
        · show Act.put _ (some 47) _ = _
          simp only [Act.put, List.setIfInBounds_toArray, List.set_cons_zero, List.set_cons_succ, i64_w, i32_w]
          rfl
        refine pure_ (i := 10) (N := some 48) (v := ?_) (a' := ?_) #[true, true, true, true, true, true, true, true, true, true, true, false] rfl rfl (by kernel_rfl) (fun _ _ _ h => h) (Or.inl ⟨by rfl, ?_⟩) ?_ ?_
        rotate_left
        · intro w'
          go_simp
          with_reducible rfl
        rotate_left
        · simp only [Act.put, List.setIfInBounds_toArray, List.set_cons_zero, List.set_cons_succ, i64_w, i32_w]
          rfl
        refine last_ (i := 11) (N := none) #[true, true, true, true, true, true, true, true, true, true, true, true] rfl rfl (by kernel_rfl) (by decide) (fun K hK => ?_)
        obtain ⟨_, z0, z1, z2, z3, z4⟩ := SK.out _ _ H7.out
        have hfz := (row_put (by have := H7.out.o4; rw [HLEN.out] at this; exact this) HLA.out).2.1
        have f0 := hfz (i * 5)
        have f1 := hfz (i * 5 + 1)
        have f2 := hfz (i * 5 + 2)
        have f3 := hfz (i * 5 + 3)
        have f4 := hfz (i * 5 + 4)
        clear hfz
        have HX := Lib.hid (show ys.take i ++ ys[i] :: x.f4.drop (i + 1) = ys.take (i + 1) ++ x.f4.drop (i + 1) from by rw [List.take_succ_eq_append_getElem hy9, List.append_assoc]; rfl)
        have hla2 : (ys.take i).length = i := by have := HYL.out; simp; omega
        have hltd := HD.out.lt
        obtain ⟨fp', hC7⟩ := H7.out.kid (B := wd.heap.size) HLEN.out.symm (by rw [List.drop_eq_getElem_cons hlt]) rfl rfl (HTA.out.move _ (fun b hb => by have hl := HC.out.lt b (by simp [hb]); have hge := HC.out.ge b (by simp [hb]); have hg0 := HC.out.dr.lt; rw [HK7.out.2 b (by have := HD.out.lt b (by simp [hb]); omega) (by omega) (by simp)]; exact HDK.out b hl)) (HTB.out.move _ (fun b hb => by have hl := HC.out.lt b (by simp [hb]); have hge := HC.out.ge b (by simp [hb]); have hg0 := HC.out.dr.lt; rw [HK7.out.2 b (by have := HD.out.lt b (by simp [hb]); omega) (by omega) (by simp)]; exact HDK.out b hl)) hltd HD.out.lts.2 HD.out.lts.1 HN.out
        rw [hla2] at hC7
        rw [HX.out] at hC7
        have HC7 := Lib.hid hC7
        clear hC7 hla2 hltd
        refine skip_ (w1 := ?_) (by rfl) rfl ?_ ?_
        rotate_left
        · go_simp
          rfl
        refine hK.out _ _ ?_
        clear hK K z0 z1 z2 z3 z4 f0 f1 f2 f3 f4
        refine done_ (by kernel_rfl) ?_
        try go_wp2
        go_roundg (x.f4.length - (i + 1))
        case measure => omega
        case rel => exact ⟨i + 1, by omega, Nat.le_refl _, by go_num, ⟨⟨_, _, HC7.out⟩⟩⟩
      · obtain rfl : i = x.f4.length := by omega
        obtain ⟨inner, fp, hC⟩ := HO.out
        rw [List.drop_length, List.append_nil, List.take_of_length_le (by have := HYL.out; omega)] at hC
        have hyl2 := HYL.out
        obtain ⟨p0, p1_, p2, p3, p4⟩ := fm_cells hC.k3
        obtain ⟨z0, z1, z2, z3, z4⟩ := fm_cells hC.k2
        obtain ⟨f0, f1, f2, f3, f4⟩ := fm_free hC.k2
        have hn1 : w1.heap.size ≠ w.heap.size + 1 := by have := hC.h3; omega
        have hn2 : w.heap.size + 1 ≠ w1.heap.size := fun e => hn1 e.symm
        obtain ⟨st1, st2, st3⟩ := st5 hC.k2 (.int .i64 x.f0) (.string x.f1) (.int .i64 x.f2) (.slice D3 y3.length e3) (.slice J4 x.f4.length q4)
        have HN := Lib.hid (hC.newF st2)
        have hdr := hC.dr.put5 (b := w.heap.size + 1) (by omega) (.int .i64 x.f0) (.string x.f1) (.int .i64 x.f2) (.slice D3 y3.length e3) (.slice J4 x.f4.length q4)
        rw [HPN.out] at hdr
        have HB := Lib.hid hdr
        clear hC HO st1 st2 st3 hdr hyl2
        go_wp2_with fail
        refine bodyPost_ret (v := .agg #[.int .i64 x.f0, .string x.f1, .int .i64 x.f2, .slice D3 y3.length e3, .slice J4 x.f4.length q4]) (by simp [results, Try.results113, go_sem, z0, z1, z2, z3, z4]) rfl ?_
        exact ⟨_, _, rfl, HN.out, HB.out.is, HB.out.b, HB.out.kp⟩
end Go.Proofs.Yteonncnhhccgeaa
end
section
namespace Go.Proofs.Yteonncnhhccgeaa
open Go.RowKit Go.Proofs.YteonncnhhccgeaaW.PrintWords
set_option linter.unusedVariables false
set_option linter.unusedSimpArgs false
/-- What l1Dress keeps of a form, and what it gives to a name. -/
structure Drs (x y : Fm) : Prop where
  f0 : y.f0 = x.f0
  f1 : y.f1 = x.f1
  f2 : y.f2 = x.f2
  f3 : x.f0 = 1 → y.f3 ∈ sets7
  f4 : x.f4 = [] → y.f4 = []
def DressEx (s : List Int) (x : Fm) : Prop := ∀ p : Nat, p + x.size ≤ 1000000 → ∃ (y : Fm) (q : Nat), q ≤ p + x.size ∧ y.tot ≤ x.tot + 3 * x.size ∧ y.size = x.size ∧ Drs x y ∧ DressOk s x p y q
theorem dress_list {s : List Int} : ∀ (ks : List Fm), (∀ k, k ∈ ks → DressEx s k) → ∀ p : Nat, p + sizes ks ≤ 1000000 → ∃ (ys : List Fm) (ps : Nat → Nat), ys.length = ks.length ∧ ps 0 = p ∧ ps ks.length ≤ p + sizes ks ∧ totL ys ≤ totL ks + 3 * sizes ks ∧ sizes ys = sizes ks ∧ ∀ (i : Nat) (hi : i < ks.length) (hi2 : i < ys.length), DressOk s ks[i] (ps i) ys[i] (ps (i + 1))
  | [], _, p, _ => ⟨[], fun _ => p, rfl, rfl, by simp [sizes], by simp [totL], rfl, fun i hi => absurd hi (by simp)⟩
  | k :: ks, ih, p, hp => by
    simp only [sizes] at hp
    obtain ⟨y, q, h1, h2, h3, _, h5⟩ := ih k List.mem_cons_self p (by omega)
    obtain ⟨ys, ps, a1, a2, a3, a4, a5, a6⟩ := dress_list ks (fun k' hk => ih k' (List.mem_cons_of_mem _ hk)) q (by omega)
    refine ⟨y :: ys, fun i => match i with | 0 => p | i + 1 => ps i, by simp [a1], rfl, by simp only [List.length_cons, sizes]; omega, by simp only [totL, sizes]; omega, by simp only [sizes]; omega, fun i hi hi2 => ?_⟩
    cases i with
    | zero => simpa [a2] using h5
    | succ i => simpa using a6 i (by simpa using hi) (by simpa using hi2)
theorem sets7_mem {j : Nat} (hj : j < 7) : sets7[j] ∈ sets7 := List.getElem_mem hj
theorem sets7_len : ∀ z, z ∈ sets7 → z.length ≤ 3 := by
  intro z hz
  simp only [sets7, List.mem_cons, List.not_mem_nil, or_false] at hz
  rcases hz with h | h | h | h | h | h | h <;> simp [h]
theorem dress_ex {s : List Int} (hs : Bts s) : ∀ x : Fm, x.tot ≤ 100000 → DressEx s x := by
  intro x
  induction x using Fm.ind with
  | h x ih =>
    intro ht p hp
    have hsz := x.size_eq
    have htt := x.tot_eq
    obtain ⟨v, hv, hpick⟩ := ev_pick hs p (by omega) 7 (by omega)
    obtain ⟨j, rfl⟩ := Int.eq_ofNat_of_zero_le (hv (by omega)).1
    have hj : j < 7 := by have := (hv (by omega)).2; omega
    have hp1 : (if x.f0 = 1 then p + 1 else p) ≤ p + 1 := by split <;> omega
    obtain ⟨ys, ps, a1, a2, a3, a4, a5, a6⟩ := dress_list x.f4 (fun k hk => ih k hk (by have := totL_mem hk; omega)) (if x.f0 = 1 then p + 1 else p) (by omega)
    have h7 := sets7_len _ (sets7_mem hj)
    have hy3 : (if x.f0 = 1 then sets7[j] else x.f3).length ≤ x.f3.length + 3 := by split <;> omega
    refine ⟨⟨x.f0, x.f1, x.f2, if x.f0 = 1 then sets7[j] else x.f3, ys⟩, ps x.f4.length, by omega, ?_, ?_, ⟨rfl, rfl, rfl, fun h => ?_, fun h => ?_⟩, ?_⟩
    · rw [Fm.tot_eq]; dsimp only; omega
    · rw [Fm.size_eq]; dsimp only; omega
    · dsimp only; rw [if_pos h]; exact sets7_mem hj
    · dsimp only; rw [h] at a1; exact List.eq_nil_of_length_eq_zero (by simpa using a1)
    · exact dress_walk x p _ _ j hj _ ys ps ht hpick rfl rfl a1 a2 rfl a6
end Go.Proofs.Yteonncnhhccgeaa
end
