/-
  NARROWER THAN 'FOR EVERY INPUT', by the rows' own cells (each row's printed sentence says how): FnExactFormSize: loops · FnExactFormSame: loops · FnExactStripForm: loops · FnExactNamesOf: loops · FnExactFormValid: loops · FnExactHitsSame: loops · FnExactSameName: loops · FnExactListForm: loops · FnExactHitsValid: loops · FnExactPatternValid: loops · FnExactDropScope: loops · FnExactFindName: loops · FnExactSameReference: loops · FnExactFittingBinds: loops · FnExactAddBind: loops · FnExactVarDepths: loops · FnExactHiddenBinds: loops · FnExactAddScope: loops · FnExactDressLike: loops · FnExactFlipScope: loops · FnExactScopesOf: loops.
  DERIVED. THE GIVEN ROWS OF THIS SEAT. 25 by the template 'for every input the law returns true; each argument reads behind the call as it read before'; 0 by the template 'total and deterministic' (their statements: YthjnbladlgkmnaaTotals.lean).
  GIVEN WITH THE SEED: the statements are not yours to turn. If you find one false, say at which input.
  Laid BY PROGRAM, IN A SANDBOX (cutbox-rows.mjs): the forced cells as the released guide's own fill.sh prints them over the translation b5ae9aa948684ac9… (all of the seat's roots in one cut). By AI agents, Wed Nov 11 2026. No macro, syntax, notation, axiom, sorry.
-/
import Derived.Test.YthjnbladlgkmnaaChecked
import GoSem.Claim
import GoSem.ClaimJoined
import GoSem.ClaimMapViews
import Derived.JoinedTies
import Derived.KernelRfl
namespace Go.Proofs.Ythjnbladlgkmnaa
/- THE CELL 'sum', in the pinned program and in every row, IS THE sha256 OF THE DUMP (.gsa) THAT YthjnbladlgkmnaaProg.lean LOADS. Nothing in Lean hashes anything: it is a label: what it is worth is what the hold of that sum in a sandbox is worth. -/
noncomputable def Try.pinned : Pinned := { name := "ythjnbladlgkmnaa", sum := "b5ae9aa948684ac91a066776f6236617791d01ae758623f0b75fae597d755f72", checked := Try.checked }
namespace Rows
def none {H : Type} : Left H := { results := [], args := [] }

/-- 'laws.FnExactConstants': WHATEVER THE INPUT: true; the input reads as it did. -/
def fnExactConstantsSpec : ChangeSpec := { name := "fnExactConstants", fn := fun _ => fun
  | [] => { results := [.lit (.bool true)], args := [] }
  | _ => none }
def fnExactConstantsRow : OpenClaim := { program := "ythjnbladlgkmnaa", sum := "b5ae9aa948684ac91a066776f6236617791d01ae758623f0b75fae597d755f72", func := "loop.example/macroexpander/laws.FnExactConstants", spec := "fnExactConstants", apart := false }
def FnExactConstantsSaid : Prop := fnExactConstantsRow.holds Try.pinned (OpenSpec.ofChange fnExactConstantsSpec)

/-- ITS FALSE NEIGHBOUR: 'it returns false'. Refute it at one input. -/
def fnExactConstantsWrong : ChangeSpec := { name := "fnExactConstants", fn := fun _ => fun
  | [] => { results := [.lit (.bool false)], args := [] }
  | _ => none }
def FnExactConstantsWrongFalsely : Prop := fnExactConstantsRow.holds Try.pinned (OpenSpec.ofChange fnExactConstantsWrong)

/-- 'laws.FnExactNameValid': WHATEVER THE INPUT: true; the input reads as it did. -/
def fnExactNameValidSpec : ChangeSpec := { name := "fnExactNameValid", fn := fun _ => fun
  | [d] => { results := [.lit (.bool true)], args := [d] }
  | _ => none }
def fnExactNameValidRow : OpenClaim := { program := "ythjnbladlgkmnaa", sum := "b5ae9aa948684ac91a066776f6236617791d01ae758623f0b75fae597d755f72", func := "loop.example/macroexpander/laws.FnExactNameValid", spec := "fnExactNameValid", inPlace := ["internal/bytealg.IndexByteString"], apart := false }
def FnExactNameValidSaid : Prop := fnExactNameValidRow.holds Try.pinned (OpenSpec.ofChange fnExactNameValidSpec)

/-- ITS FALSE NEIGHBOUR: 'it returns false'. Refute it at one input. -/
def fnExactNameValidWrong : ChangeSpec := { name := "fnExactNameValid", fn := fun _ => fun
  | [d] => { results := [.lit (.bool false)], args := [d] }
  | _ => none }
def FnExactNameValidWrongFalsely : Prop := fnExactNameValidRow.holds Try.pinned (OpenSpec.ofChange fnExactNameValidWrong)

/-- 'laws.FnExactScopesWithin': WHATEVER THE INPUT: true; the input reads as it did. -/
def fnExactScopesWithinSpec : ChangeSpec := { name := "fnExactScopesWithin", fn := fun _ => fun
  | [d1, d2] => { results := [.lit (.bool true)], args := [d1, d2] }
  | _ => none }
def fnExactScopesWithinRow : OpenClaim := { program := "ythjnbladlgkmnaa", sum := "b5ae9aa948684ac91a066776f6236617791d01ae758623f0b75fae597d755f72", func := "loop.example/macroexpander/laws.FnExactScopesWithin", spec := "fnExactScopesWithin", unfollowed := true, recurses := true, apart := false }
def FnExactScopesWithinSaid : Prop := fnExactScopesWithinRow.holds Try.pinned (OpenSpec.ofChange fnExactScopesWithinSpec)

/-- ITS FALSE NEIGHBOUR: 'it returns false'. Refute it at one input. -/
def fnExactScopesWithinWrong : ChangeSpec := { name := "fnExactScopesWithin", fn := fun _ => fun
  | [d1, d2] => { results := [.lit (.bool false)], args := [d1, d2] }
  | _ => none }
def FnExactScopesWithinWrongFalsely : Prop := fnExactScopesWithinRow.holds Try.pinned (OpenSpec.ofChange fnExactScopesWithinWrong)

/-- 'laws.FnExactFormSize': WHATEVER THE INPUT: true; the input reads as it did. -/
def fnExactFormSizeSpec : ChangeSpec := { name := "fnExactFormSize", fn := fun _ => fun
  | [d] => { results := [.lit (.bool true)], args := [d] }
  | _ => none }
def fnExactFormSizeRow : OpenClaim := { program := "ythjnbladlgkmnaa", sum := "b5ae9aa948684ac91a066776f6236617791d01ae758623f0b75fae597d755f72", func := "loop.example/macroexpander/laws.FnExactFormSize", spec := "fnExactFormSize", recurses := true, loops := true, apart := false }
def FnExactFormSizeSaid : Prop := fnExactFormSizeRow.holds Try.pinned (OpenSpec.ofChange fnExactFormSizeSpec)

/-- ITS FALSE NEIGHBOUR: 'it returns false'. Refute it at one input. -/
def fnExactFormSizeWrong : ChangeSpec := { name := "fnExactFormSize", fn := fun _ => fun
  | [d] => { results := [.lit (.bool false)], args := [d] }
  | _ => none }
def FnExactFormSizeWrongFalsely : Prop := fnExactFormSizeRow.holds Try.pinned (OpenSpec.ofChange fnExactFormSizeWrong)

/-- 'laws.FnExactFormSame': WHATEVER THE INPUT: true; the input reads as it did. -/
def fnExactFormSameSpec : ChangeSpec := { name := "fnExactFormSame", fn := fun _ => fun
  | [d1, d2] => { results := [.lit (.bool true)], args := [d1, d2] }
  | _ => none }
def fnExactFormSameRow : OpenClaim := { program := "ythjnbladlgkmnaa", sum := "b5ae9aa948684ac91a066776f6236617791d01ae758623f0b75fae597d755f72", func := "loop.example/macroexpander/laws.FnExactFormSame", spec := "fnExactFormSame", unfollowed := true, recurses := true, loops := true, apart := false }
def FnExactFormSameSaid : Prop := fnExactFormSameRow.holds Try.pinned (OpenSpec.ofChange fnExactFormSameSpec)

/-- ITS FALSE NEIGHBOUR: 'it returns false'. Refute it at one input. -/
def fnExactFormSameWrong : ChangeSpec := { name := "fnExactFormSame", fn := fun _ => fun
  | [d1, d2] => { results := [.lit (.bool false)], args := [d1, d2] }
  | _ => none }
def FnExactFormSameWrongFalsely : Prop := fnExactFormSameRow.holds Try.pinned (OpenSpec.ofChange fnExactFormSameWrong)

/-- 'laws.FnExactStripForm': WHATEVER THE INPUT: true; the input reads as it did. -/
def fnExactStripFormSpec : ChangeSpec := { name := "fnExactStripForm", fn := fun _ => fun
  | [d] => { results := [.lit (.bool true)], args := [d] }
  | _ => none }
def fnExactStripFormRow : OpenClaim := { program := "ythjnbladlgkmnaa", sum := "b5ae9aa948684ac91a066776f6236617791d01ae758623f0b75fae597d755f72", func := "loop.example/macroexpander/laws.FnExactStripForm", spec := "fnExactStripForm", recurses := true, loops := true, apart := false }
def FnExactStripFormSaid : Prop := fnExactStripFormRow.holds Try.pinned (OpenSpec.ofChange fnExactStripFormSpec)

/-- ITS FALSE NEIGHBOUR: 'it returns false'. Refute it at one input. -/
def fnExactStripFormWrong : ChangeSpec := { name := "fnExactStripForm", fn := fun _ => fun
  | [d] => { results := [.lit (.bool false)], args := [d] }
  | _ => none }
def FnExactStripFormWrongFalsely : Prop := fnExactStripFormRow.holds Try.pinned (OpenSpec.ofChange fnExactStripFormWrong)

/-- 'laws.FnExactBindsValid': WHATEVER THE INPUT: true; the input reads as it did. -/
def fnExactBindsValidSpec : ChangeSpec := { name := "fnExactBindsValid", fn := fun _ => fun
  | [d] => { results := [.lit (.bool true)], args := [d] }
  | _ => none }
def fnExactBindsValidRow : OpenClaim := { program := "ythjnbladlgkmnaa", sum := "b5ae9aa948684ac91a066776f6236617791d01ae758623f0b75fae597d755f72", func := "loop.example/macroexpander/laws.FnExactBindsValid", spec := "fnExactBindsValid", inPlace := ["internal/bytealg.IndexByteString"], unfollowed := true, recurses := true, apart := false }
def FnExactBindsValidSaid : Prop := fnExactBindsValidRow.holds Try.pinned (OpenSpec.ofChange fnExactBindsValidSpec)

/-- ITS FALSE NEIGHBOUR: 'it returns false'. Refute it at one input. -/
def fnExactBindsValidWrong : ChangeSpec := { name := "fnExactBindsValid", fn := fun _ => fun
  | [d] => { results := [.lit (.bool false)], args := [d] }
  | _ => none }
def FnExactBindsValidWrongFalsely : Prop := fnExactBindsValidRow.holds Try.pinned (OpenSpec.ofChange fnExactBindsValidWrong)

/-- 'laws.FnExactNamesOf': WHATEVER THE INPUT: true; the input reads as it did. -/
def fnExactNamesOfSpec : ChangeSpec := { name := "fnExactNamesOf", fn := fun _ => fun
  | [d] => { results := [.lit (.bool true)], args := [d] }
  | _ => none }
def fnExactNamesOfRow : OpenClaim := { program := "ythjnbladlgkmnaa", sum := "b5ae9aa948684ac91a066776f6236617791d01ae758623f0b75fae597d755f72", func := "loop.example/macroexpander/laws.FnExactNamesOf", spec := "fnExactNamesOf", unfollowed := true, recurses := true, loops := true, apart := false }
def FnExactNamesOfSaid : Prop := fnExactNamesOfRow.holds Try.pinned (OpenSpec.ofChange fnExactNamesOfSpec)

/-- ITS FALSE NEIGHBOUR: 'it returns false'. Refute it at one input. -/
def fnExactNamesOfWrong : ChangeSpec := { name := "fnExactNamesOf", fn := fun _ => fun
  | [d] => { results := [.lit (.bool false)], args := [d] }
  | _ => none }
def FnExactNamesOfWrongFalsely : Prop := fnExactNamesOfRow.holds Try.pinned (OpenSpec.ofChange fnExactNamesOfWrong)

/-- 'laws.FnExactFormValid': WHATEVER THE INPUT: true; the input reads as it did. -/
def fnExactFormValidSpec : ChangeSpec := { name := "fnExactFormValid", fn := fun _ => fun
  | [d] => { results := [.lit (.bool true)], args := [d] }
  | _ => none }
def fnExactFormValidRow : OpenClaim := { program := "ythjnbladlgkmnaa", sum := "b5ae9aa948684ac91a066776f6236617791d01ae758623f0b75fae597d755f72", func := "loop.example/macroexpander/laws.FnExactFormValid", spec := "fnExactFormValid", inPlace := ["internal/bytealg.IndexByteString"], recurses := true, loops := true, apart := false }
def FnExactFormValidSaid : Prop := fnExactFormValidRow.holds Try.pinned (OpenSpec.ofChange fnExactFormValidSpec)

/-- ITS FALSE NEIGHBOUR: 'it returns false'. Refute it at one input. -/
def fnExactFormValidWrong : ChangeSpec := { name := "fnExactFormValid", fn := fun _ => fun
  | [d] => { results := [.lit (.bool false)], args := [d] }
  | _ => none }
def FnExactFormValidWrongFalsely : Prop := fnExactFormValidRow.holds Try.pinned (OpenSpec.ofChange fnExactFormValidWrong)

/-- 'laws.FnExactHitsSame': WHATEVER THE INPUT: true; the input reads as it did. -/
def fnExactHitsSameSpec : ChangeSpec := { name := "fnExactHitsSame", fn := fun _ => fun
  | [d1, d2] => { results := [.lit (.bool true)], args := [d1, d2] }
  | _ => none }
def fnExactHitsSameRow : OpenClaim := { program := "ythjnbladlgkmnaa", sum := "b5ae9aa948684ac91a066776f6236617791d01ae758623f0b75fae597d755f72", func := "loop.example/macroexpander/laws.FnExactHitsSame", spec := "fnExactHitsSame", unfollowed := true, recurses := true, loops := true, apart := false }
def FnExactHitsSameSaid : Prop := fnExactHitsSameRow.holds Try.pinned (OpenSpec.ofChange fnExactHitsSameSpec)

/-- ITS FALSE NEIGHBOUR: 'it returns false'. Refute it at one input. -/
def fnExactHitsSameWrong : ChangeSpec := { name := "fnExactHitsSame", fn := fun _ => fun
  | [d1, d2] => { results := [.lit (.bool false)], args := [d1, d2] }
  | _ => none }
def FnExactHitsSameWrongFalsely : Prop := fnExactHitsSameRow.holds Try.pinned (OpenSpec.ofChange fnExactHitsSameWrong)

/-- 'laws.FnExactSameName': WHATEVER THE INPUT: true; the input reads as it did. -/
def fnExactSameNameSpec : ChangeSpec := { name := "fnExactSameName", fn := fun _ => fun
  | [d1, d2] => { results := [.lit (.bool true)], args := [d1, d2] }
  | _ => none }
def fnExactSameNameRow : OpenClaim := { program := "ythjnbladlgkmnaa", sum := "b5ae9aa948684ac91a066776f6236617791d01ae758623f0b75fae597d755f72", func := "loop.example/macroexpander/laws.FnExactSameName", spec := "fnExactSameName", inPlace := ["internal/bytealg.IndexByteString"], unfollowed := true, recurses := true, loops := true, apart := false }
def FnExactSameNameSaid : Prop := fnExactSameNameRow.holds Try.pinned (OpenSpec.ofChange fnExactSameNameSpec)

/-- ITS FALSE NEIGHBOUR: 'it returns false'. Refute it at one input. -/
def fnExactSameNameWrong : ChangeSpec := { name := "fnExactSameName", fn := fun _ => fun
  | [d1, d2] => { results := [.lit (.bool false)], args := [d1, d2] }
  | _ => none }
def FnExactSameNameWrongFalsely : Prop := fnExactSameNameRow.holds Try.pinned (OpenSpec.ofChange fnExactSameNameWrong)

/-- 'laws.FnExactListForm': WHATEVER THE INPUT: true; the input reads as it did. -/
def fnExactListFormSpec : ChangeSpec := { name := "fnExactListForm", fn := fun _ => fun
  | [d] => { results := [.lit (.bool true)], args := [d] }
  | _ => none }
def fnExactListFormRow : OpenClaim := { program := "ythjnbladlgkmnaa", sum := "b5ae9aa948684ac91a066776f6236617791d01ae758623f0b75fae597d755f72", func := "loop.example/macroexpander/laws.FnExactListForm", spec := "fnExactListForm", inPlace := ["internal/bytealg.IndexByteString"], recurses := true, loops := true, apart := false }
def FnExactListFormSaid : Prop := fnExactListFormRow.holds Try.pinned (OpenSpec.ofChange fnExactListFormSpec)

/-- ITS FALSE NEIGHBOUR: 'it returns false'. Refute it at one input. -/
def fnExactListFormWrong : ChangeSpec := { name := "fnExactListForm", fn := fun _ => fun
  | [d] => { results := [.lit (.bool false)], args := [d] }
  | _ => none }
def FnExactListFormWrongFalsely : Prop := fnExactListFormRow.holds Try.pinned (OpenSpec.ofChange fnExactListFormWrong)

/-- 'laws.FnExactHitsValid': WHATEVER THE INPUT: true; the input reads as it did. -/
def fnExactHitsValidSpec : ChangeSpec := { name := "fnExactHitsValid", fn := fun _ => fun
  | [d] => { results := [.lit (.bool true)], args := [d] }
  | _ => none }
def fnExactHitsValidRow : OpenClaim := { program := "ythjnbladlgkmnaa", sum := "b5ae9aa948684ac91a066776f6236617791d01ae758623f0b75fae597d755f72", func := "loop.example/macroexpander/laws.FnExactHitsValid", spec := "fnExactHitsValid", inPlace := ["internal/bytealg.IndexByteString"], unfollowed := true, recurses := true, loops := true, apart := false }
def FnExactHitsValidSaid : Prop := fnExactHitsValidRow.holds Try.pinned (OpenSpec.ofChange fnExactHitsValidSpec)

/-- ITS FALSE NEIGHBOUR: 'it returns false'. Refute it at one input. -/
def fnExactHitsValidWrong : ChangeSpec := { name := "fnExactHitsValid", fn := fun _ => fun
  | [d] => { results := [.lit (.bool false)], args := [d] }
  | _ => none }
def FnExactHitsValidWrongFalsely : Prop := fnExactHitsValidRow.holds Try.pinned (OpenSpec.ofChange fnExactHitsValidWrong)

/-- 'laws.FnExactPatternValid': WHATEVER THE INPUT: true; the input reads as it did. -/
def fnExactPatternValidSpec : ChangeSpec := { name := "fnExactPatternValid", fn := fun _ => fun
  | [d1, d2] => { results := [.lit (.bool true)], args := [d1, d2] }
  | _ => none }
def fnExactPatternValidRow : OpenClaim := { program := "ythjnbladlgkmnaa", sum := "b5ae9aa948684ac91a066776f6236617791d01ae758623f0b75fae597d755f72", func := "loop.example/macroexpander/laws.FnExactPatternValid", spec := "fnExactPatternValid", inPlace := ["internal/bytealg.IndexByteString"], unfollowed := true, recurses := true, loops := true, apart := false }
def FnExactPatternValidSaid : Prop := fnExactPatternValidRow.holds Try.pinned (OpenSpec.ofChange fnExactPatternValidSpec)

/-- ITS FALSE NEIGHBOUR: 'it returns false'. Refute it at one input. -/
def fnExactPatternValidWrong : ChangeSpec := { name := "fnExactPatternValid", fn := fun _ => fun
  | [d1, d2] => { results := [.lit (.bool false)], args := [d1, d2] }
  | _ => none }
def FnExactPatternValidWrongFalsely : Prop := fnExactPatternValidRow.holds Try.pinned (OpenSpec.ofChange fnExactPatternValidWrong)

/-- 'laws.FnExactDropScope': WHATEVER THE INPUT: true; the input reads as it did. -/
def fnExactDropScopeSpec : ChangeSpec := { name := "fnExactDropScope", fn := fun _ => fun
  | [d1, d2] => { results := [.lit (.bool true)], args := [d1, d2] }
  | _ => none }
def fnExactDropScopeRow : OpenClaim := { program := "ythjnbladlgkmnaa", sum := "b5ae9aa948684ac91a066776f6236617791d01ae758623f0b75fae597d755f72", func := "loop.example/macroexpander/laws.FnExactDropScope", spec := "fnExactDropScope", inPlace := ["internal/bytealg.IndexByteString"], unfollowed := true, recurses := true, loops := true, apart := false }
def FnExactDropScopeSaid : Prop := fnExactDropScopeRow.holds Try.pinned (OpenSpec.ofChange fnExactDropScopeSpec)

/-- ITS FALSE NEIGHBOUR: 'it returns false'. Refute it at one input. -/
def fnExactDropScopeWrong : ChangeSpec := { name := "fnExactDropScope", fn := fun _ => fun
  | [d1, d2] => { results := [.lit (.bool false)], args := [d1, d2] }
  | _ => none }
def FnExactDropScopeWrongFalsely : Prop := fnExactDropScopeRow.holds Try.pinned (OpenSpec.ofChange fnExactDropScopeWrong)

/-- 'laws.FnExactFindName': WHATEVER THE INPUT: true; the input reads as it did. -/
def fnExactFindNameSpec : ChangeSpec := { name := "fnExactFindName", fn := fun _ => fun
  | [d1, d2] => { results := [.lit (.bool true)], args := [d1, d2] }
  | _ => none }
def fnExactFindNameRow : OpenClaim := { program := "ythjnbladlgkmnaa", sum := "b5ae9aa948684ac91a066776f6236617791d01ae758623f0b75fae597d755f72", func := "loop.example/macroexpander/laws.FnExactFindName", spec := "fnExactFindName", inPlace := ["internal/bytealg.IndexByteString"], unfollowed := true, recurses := true, loops := true, apart := false }
def FnExactFindNameSaid : Prop := fnExactFindNameRow.holds Try.pinned (OpenSpec.ofChange fnExactFindNameSpec)

/-- ITS FALSE NEIGHBOUR: 'it returns false'. Refute it at one input. -/
def fnExactFindNameWrong : ChangeSpec := { name := "fnExactFindName", fn := fun _ => fun
  | [d1, d2] => { results := [.lit (.bool false)], args := [d1, d2] }
  | _ => none }
def FnExactFindNameWrongFalsely : Prop := fnExactFindNameRow.holds Try.pinned (OpenSpec.ofChange fnExactFindNameWrong)

/-- 'laws.FnExactSameReference': WHATEVER THE INPUT: true; the input reads as it did. -/
def fnExactSameReferenceSpec : ChangeSpec := { name := "fnExactSameReference", fn := fun _ => fun
  | [d1, d2, d3] => { results := [.lit (.bool true)], args := [d1, d2, d3] }
  | _ => none }
def fnExactSameReferenceRow : OpenClaim := { program := "ythjnbladlgkmnaa", sum := "b5ae9aa948684ac91a066776f6236617791d01ae758623f0b75fae597d755f72", func := "loop.example/macroexpander/laws.FnExactSameReference", spec := "fnExactSameReference", inPlace := ["internal/bytealg.IndexByteString"], unfollowed := true, recurses := true, loops := true, apart := false }
def FnExactSameReferenceSaid : Prop := fnExactSameReferenceRow.holds Try.pinned (OpenSpec.ofChange fnExactSameReferenceSpec)

/-- ITS FALSE NEIGHBOUR: 'it returns false'. Refute it at one input. -/
def fnExactSameReferenceWrong : ChangeSpec := { name := "fnExactSameReference", fn := fun _ => fun
  | [d1, d2, d3] => { results := [.lit (.bool false)], args := [d1, d2, d3] }
  | _ => none }
def FnExactSameReferenceWrongFalsely : Prop := fnExactSameReferenceRow.holds Try.pinned (OpenSpec.ofChange fnExactSameReferenceWrong)

/-- 'laws.FnExactFittingBinds': WHATEVER THE INPUT: true; the input reads as it did. -/
def fnExactFittingBindsSpec : ChangeSpec := { name := "fnExactFittingBinds", fn := fun _ => fun
  | [d1, d2] => { results := [.lit (.bool true)], args := [d1, d2] }
  | _ => none }
def fnExactFittingBindsRow : OpenClaim := { program := "ythjnbladlgkmnaa", sum := "b5ae9aa948684ac91a066776f6236617791d01ae758623f0b75fae597d755f72", func := "loop.example/macroexpander/laws.FnExactFittingBinds", spec := "fnExactFittingBinds", inPlace := ["internal/bytealg.IndexByteString"], unfollowed := true, recurses := true, loops := true, apart := false }
def FnExactFittingBindsSaid : Prop := fnExactFittingBindsRow.holds Try.pinned (OpenSpec.ofChange fnExactFittingBindsSpec)

/-- ITS FALSE NEIGHBOUR: 'it returns false'. Refute it at one input. -/
def fnExactFittingBindsWrong : ChangeSpec := { name := "fnExactFittingBinds", fn := fun _ => fun
  | [d1, d2] => { results := [.lit (.bool false)], args := [d1, d2] }
  | _ => none }
def FnExactFittingBindsWrongFalsely : Prop := fnExactFittingBindsRow.holds Try.pinned (OpenSpec.ofChange fnExactFittingBindsWrong)

/-- 'laws.FnExactAddBind': WHATEVER THE INPUT: true; the input reads as it did. -/
def fnExactAddBindSpec : ChangeSpec := { name := "fnExactAddBind", fn := fun _ => fun
  | [d1, d2, d3] => { results := [.lit (.bool true)], args := [d1, d2, d3] }
  | _ => none }
def fnExactAddBindRow : OpenClaim := { program := "ythjnbladlgkmnaa", sum := "b5ae9aa948684ac91a066776f6236617791d01ae758623f0b75fae597d755f72", func := "loop.example/macroexpander/laws.FnExactAddBind", spec := "fnExactAddBind", inPlace := ["internal/bytealg.IndexByteString"], unfollowed := true, recurses := true, loops := true, apart := false }
def FnExactAddBindSaid : Prop := fnExactAddBindRow.holds Try.pinned (OpenSpec.ofChange fnExactAddBindSpec)

/-- ITS FALSE NEIGHBOUR: 'it returns false'. Refute it at one input. -/
def fnExactAddBindWrong : ChangeSpec := { name := "fnExactAddBind", fn := fun _ => fun
  | [d1, d2, d3] => { results := [.lit (.bool false)], args := [d1, d2, d3] }
  | _ => none }
def FnExactAddBindWrongFalsely : Prop := fnExactAddBindRow.holds Try.pinned (OpenSpec.ofChange fnExactAddBindWrong)

/-- 'laws.FnExactVarDepths': WHATEVER THE INPUT: true; the input reads as it did. -/
def fnExactVarDepthsSpec : ChangeSpec := { name := "fnExactVarDepths", fn := fun _ => fun
  | [d1, d2] => { results := [.lit (.bool true)], args := [d1, d2] }
  | _ => none }
def fnExactVarDepthsRow : OpenClaim := { program := "ythjnbladlgkmnaa", sum := "b5ae9aa948684ac91a066776f6236617791d01ae758623f0b75fae597d755f72", func := "loop.example/macroexpander/laws.FnExactVarDepths", spec := "fnExactVarDepths", inPlace := ["internal/bytealg.IndexByteString"], unfollowed := true, recurses := true, loops := true, apart := false }
def FnExactVarDepthsSaid : Prop := fnExactVarDepthsRow.holds Try.pinned (OpenSpec.ofChange fnExactVarDepthsSpec)

/-- ITS FALSE NEIGHBOUR: 'it returns false'. Refute it at one input. -/
def fnExactVarDepthsWrong : ChangeSpec := { name := "fnExactVarDepths", fn := fun _ => fun
  | [d1, d2] => { results := [.lit (.bool false)], args := [d1, d2] }
  | _ => none }
def FnExactVarDepthsWrongFalsely : Prop := fnExactVarDepthsRow.holds Try.pinned (OpenSpec.ofChange fnExactVarDepthsWrong)

/-- 'laws.FnExactHiddenBinds': WHATEVER THE INPUT: true; the input reads as it did. -/
def fnExactHiddenBindsSpec : ChangeSpec := { name := "fnExactHiddenBinds", fn := fun _ => fun
  | [d1, d2] => { results := [.lit (.bool true)], args := [d1, d2] }
  | _ => none }
def fnExactHiddenBindsRow : OpenClaim := { program := "ythjnbladlgkmnaa", sum := "b5ae9aa948684ac91a066776f6236617791d01ae758623f0b75fae597d755f72", func := "loop.example/macroexpander/laws.FnExactHiddenBinds", spec := "fnExactHiddenBinds", inPlace := ["internal/bytealg.IndexByteString"], unfollowed := true, recurses := true, loops := true, apart := false }
def FnExactHiddenBindsSaid : Prop := fnExactHiddenBindsRow.holds Try.pinned (OpenSpec.ofChange fnExactHiddenBindsSpec)

/-- ITS FALSE NEIGHBOUR: 'it returns false'. Refute it at one input. -/
def fnExactHiddenBindsWrong : ChangeSpec := { name := "fnExactHiddenBinds", fn := fun _ => fun
  | [d1, d2] => { results := [.lit (.bool false)], args := [d1, d2] }
  | _ => none }
def FnExactHiddenBindsWrongFalsely : Prop := fnExactHiddenBindsRow.holds Try.pinned (OpenSpec.ofChange fnExactHiddenBindsWrong)

/-- 'laws.FnExactAddScope': WHATEVER THE INPUT: true; the input reads as it did. -/
def fnExactAddScopeSpec : ChangeSpec := { name := "fnExactAddScope", fn := fun _ => fun
  | [d1, d2] => { results := [.lit (.bool true)], args := [d1, d2] }
  | _ => none }
def fnExactAddScopeRow : OpenClaim := { program := "ythjnbladlgkmnaa", sum := "b5ae9aa948684ac91a066776f6236617791d01ae758623f0b75fae597d755f72", func := "loop.example/macroexpander/laws.FnExactAddScope", spec := "fnExactAddScope", inPlace := ["slices.overlaps[int]", "internal/bytealg.IndexByteString"], unfollowed := true, recurses := true, loops := true, apart := false }
def FnExactAddScopeSaid : Prop := fnExactAddScopeRow.holds Try.pinned (OpenSpec.ofChange fnExactAddScopeSpec)

/-- ITS FALSE NEIGHBOUR: 'it returns false'. Refute it at one input. -/
def fnExactAddScopeWrong : ChangeSpec := { name := "fnExactAddScope", fn := fun _ => fun
  | [d1, d2] => { results := [.lit (.bool false)], args := [d1, d2] }
  | _ => none }
def FnExactAddScopeWrongFalsely : Prop := fnExactAddScopeRow.holds Try.pinned (OpenSpec.ofChange fnExactAddScopeWrong)

/-- 'laws.FnExactDressLike': WHATEVER THE INPUT: true; the input reads as it did. -/
def fnExactDressLikeSpec : ChangeSpec := { name := "fnExactDressLike", fn := fun _ => fun
  | [d1, d2] => { results := [.lit (.bool true)], args := [d1, d2] }
  | _ => none }
def fnExactDressLikeRow : OpenClaim := { program := "ythjnbladlgkmnaa", sum := "b5ae9aa948684ac91a066776f6236617791d01ae758623f0b75fae597d755f72", func := "loop.example/macroexpander/laws.FnExactDressLike", spec := "fnExactDressLike", inPlace := ["internal/bytealg.IndexByteString", "slices.overlaps[int]"], unfollowed := true, recurses := true, loops := true, apart := false }
def FnExactDressLikeSaid : Prop := fnExactDressLikeRow.holds Try.pinned (OpenSpec.ofChange fnExactDressLikeSpec)

/-- ITS FALSE NEIGHBOUR: 'it returns false'. Refute it at one input. -/
def fnExactDressLikeWrong : ChangeSpec := { name := "fnExactDressLike", fn := fun _ => fun
  | [d1, d2] => { results := [.lit (.bool false)], args := [d1, d2] }
  | _ => none }
def FnExactDressLikeWrongFalsely : Prop := fnExactDressLikeRow.holds Try.pinned (OpenSpec.ofChange fnExactDressLikeWrong)

/-- 'laws.FnExactFlipScope': WHATEVER THE INPUT: true; the input reads as it did. -/
def fnExactFlipScopeSpec : ChangeSpec := { name := "fnExactFlipScope", fn := fun _ => fun
  | [d1, d2] => { results := [.lit (.bool true)], args := [d1, d2] }
  | _ => none }
def fnExactFlipScopeRow : OpenClaim := { program := "ythjnbladlgkmnaa", sum := "b5ae9aa948684ac91a066776f6236617791d01ae758623f0b75fae597d755f72", func := "loop.example/macroexpander/laws.FnExactFlipScope", spec := "fnExactFlipScope", inPlace := ["slices.overlaps[int]", "internal/bytealg.IndexByteString"], unfollowed := true, recurses := true, loops := true, apart := false }
def FnExactFlipScopeSaid : Prop := fnExactFlipScopeRow.holds Try.pinned (OpenSpec.ofChange fnExactFlipScopeSpec)

/-- ITS FALSE NEIGHBOUR: 'it returns false'. Refute it at one input. -/
def fnExactFlipScopeWrong : ChangeSpec := { name := "fnExactFlipScope", fn := fun _ => fun
  | [d1, d2] => { results := [.lit (.bool false)], args := [d1, d2] }
  | _ => none }
def FnExactFlipScopeWrongFalsely : Prop := fnExactFlipScopeRow.holds Try.pinned (OpenSpec.ofChange fnExactFlipScopeWrong)

/-- 'laws.FnExactScopesOf': WHATEVER THE INPUT: true; the input reads as it did. -/
def fnExactScopesOfSpec : ChangeSpec := { name := "fnExactScopesOf", fn := fun _ => fun
  | [d] => { results := [.lit (.bool true)], args := [d] }
  | _ => none }
def fnExactScopesOfRow : OpenClaim := { program := "ythjnbladlgkmnaa", sum := "b5ae9aa948684ac91a066776f6236617791d01ae758623f0b75fae597d755f72", func := "loop.example/macroexpander/laws.FnExactScopesOf", spec := "fnExactScopesOf", inPlace := ["internal/bytealg.IndexByteString"], unfollowed := true, recurses := true, loops := true, apart := false }
def FnExactScopesOfSaid : Prop := fnExactScopesOfRow.holds Try.pinned (OpenSpec.ofChange fnExactScopesOfSpec)

/-- ITS FALSE NEIGHBOUR: 'it returns false'. Refute it at one input. -/
def fnExactScopesOfWrong : ChangeSpec := { name := "fnExactScopesOf", fn := fun _ => fun
  | [d] => { results := [.lit (.bool false)], args := [d] }
  | _ => none }
def FnExactScopesOfWrongFalsely : Prop := fnExactScopesOfRow.holds Try.pinned (OpenSpec.ofChange fnExactScopesOfWrong)

/- THE SECOND FORM. 'bulk': how many values and letters a reading holds, each counted each time it is reached (what is shared counts as often as it is met; a slice's spare places count too). A statement '..UptoSaid' is the law's where the arguments, and the package variables that the reading takes, are together of bulk at most 1048576: NARROWER than '..Said'. Prove '..Said' where nothing that the law and all that it calls make is longer than what came in: it says more and counts as full. Else prove '..UptoSaid'. A law counts once. -/
mutual
def uptoBulk {H : Type} : DataW H → Nat
  | .lit (.string bytes) => bytes.length + 1
  | .lit _ => 1
  | .nil => 1
  | .ptr d => uptoBulk d + 1
  | .slice elems spare => uptoBulkAll elems + uptoBulkAll spare + 1
  | .agg parts => uptoBulkAll parts + 1
  | .iface _ d => uptoBulk d + 1
  | .map entries => uptoBulkEntries entries + 1
  | .held _ => 1
def uptoBulkAll {H : Type} : List (DataW H) → Nat
  | [] => 0
  | d :: r => uptoBulk d + uptoBulkAll r
def uptoBulkEntries {H : Type} : List (Lit × DataW H) → Nat
  | [] => 0
  | x :: r => uptoBulkEntry x + uptoBulkEntries r
def uptoBulkEntry {H : Type} : Lit × DataW H → Nat
  | (.string bytes, d) => bytes.length + uptoBulk d + 1
  | (_, d) => uptoBulk d + 1
 end
def uptoSmall : (H : Type) → List (DataW H) → Bool := fun _ ds => decide (uptoBulkAll ds ≤ 1048576)
def OpenSpec.upto (s : _root_.Go.ChangeSpec) : _root_.Go.OpenSpec := { _root_.Go.OpenSpec.ofChange s with cond := some uptoSmall }

/-- 'laws.FnExactConstants', WHERE WHAT IT READS IS OF BULK AT MOST 1048576: true; the input reads as it did. -/
def fnExactConstantsUptoRow : OpenClaim := { program := "ythjnbladlgkmnaa", sum := "b5ae9aa948684ac91a066776f6236617791d01ae758623f0b75fae597d755f72", func := "loop.example/macroexpander/laws.FnExactConstants", spec := "fnExactConstants", apart := false, narrowed := true }
def FnExactConstantsUptoSaid : Prop := fnExactConstantsUptoRow.holds Try.pinned (OpenSpec.upto fnExactConstantsSpec)

/-- 'laws.FnExactNameValid', WHERE WHAT IT READS IS OF BULK AT MOST 1048576: true; the input reads as it did. -/
def fnExactNameValidUptoRow : OpenClaim := { program := "ythjnbladlgkmnaa", sum := "b5ae9aa948684ac91a066776f6236617791d01ae758623f0b75fae597d755f72", func := "loop.example/macroexpander/laws.FnExactNameValid", spec := "fnExactNameValid", inPlace := ["internal/bytealg.IndexByteString"], apart := false, narrowed := true }
def FnExactNameValidUptoSaid : Prop := fnExactNameValidUptoRow.holds Try.pinned (OpenSpec.upto fnExactNameValidSpec)

/-- 'laws.FnExactScopesWithin', WHERE WHAT IT READS IS OF BULK AT MOST 1048576: true; the input reads as it did. -/
def fnExactScopesWithinUptoRow : OpenClaim := { program := "ythjnbladlgkmnaa", sum := "b5ae9aa948684ac91a066776f6236617791d01ae758623f0b75fae597d755f72", func := "loop.example/macroexpander/laws.FnExactScopesWithin", spec := "fnExactScopesWithin", unfollowed := true, recurses := true, apart := false, narrowed := true }
def FnExactScopesWithinUptoSaid : Prop := fnExactScopesWithinUptoRow.holds Try.pinned (OpenSpec.upto fnExactScopesWithinSpec)

/-- 'laws.FnExactFormSize', WHERE WHAT IT READS IS OF BULK AT MOST 1048576: true; the input reads as it did. -/
def fnExactFormSizeUptoRow : OpenClaim := { program := "ythjnbladlgkmnaa", sum := "b5ae9aa948684ac91a066776f6236617791d01ae758623f0b75fae597d755f72", func := "loop.example/macroexpander/laws.FnExactFormSize", spec := "fnExactFormSize", recurses := true, loops := true, apart := false, narrowed := true }
def FnExactFormSizeUptoSaid : Prop := fnExactFormSizeUptoRow.holds Try.pinned (OpenSpec.upto fnExactFormSizeSpec)

/-- 'laws.FnExactFormSame', WHERE WHAT IT READS IS OF BULK AT MOST 1048576: true; the input reads as it did. -/
def fnExactFormSameUptoRow : OpenClaim := { program := "ythjnbladlgkmnaa", sum := "b5ae9aa948684ac91a066776f6236617791d01ae758623f0b75fae597d755f72", func := "loop.example/macroexpander/laws.FnExactFormSame", spec := "fnExactFormSame", unfollowed := true, recurses := true, loops := true, apart := false, narrowed := true }
def FnExactFormSameUptoSaid : Prop := fnExactFormSameUptoRow.holds Try.pinned (OpenSpec.upto fnExactFormSameSpec)

/-- 'laws.FnExactStripForm', WHERE WHAT IT READS IS OF BULK AT MOST 1048576: true; the input reads as it did. -/
def fnExactStripFormUptoRow : OpenClaim := { program := "ythjnbladlgkmnaa", sum := "b5ae9aa948684ac91a066776f6236617791d01ae758623f0b75fae597d755f72", func := "loop.example/macroexpander/laws.FnExactStripForm", spec := "fnExactStripForm", recurses := true, loops := true, apart := false, narrowed := true }
def FnExactStripFormUptoSaid : Prop := fnExactStripFormUptoRow.holds Try.pinned (OpenSpec.upto fnExactStripFormSpec)

/-- 'laws.FnExactBindsValid', WHERE WHAT IT READS IS OF BULK AT MOST 1048576: true; the input reads as it did. -/
def fnExactBindsValidUptoRow : OpenClaim := { program := "ythjnbladlgkmnaa", sum := "b5ae9aa948684ac91a066776f6236617791d01ae758623f0b75fae597d755f72", func := "loop.example/macroexpander/laws.FnExactBindsValid", spec := "fnExactBindsValid", inPlace := ["internal/bytealg.IndexByteString"], unfollowed := true, recurses := true, apart := false, narrowed := true }
def FnExactBindsValidUptoSaid : Prop := fnExactBindsValidUptoRow.holds Try.pinned (OpenSpec.upto fnExactBindsValidSpec)

/-- 'laws.FnExactNamesOf', WHERE WHAT IT READS IS OF BULK AT MOST 1048576: true; the input reads as it did. -/
def fnExactNamesOfUptoRow : OpenClaim := { program := "ythjnbladlgkmnaa", sum := "b5ae9aa948684ac91a066776f6236617791d01ae758623f0b75fae597d755f72", func := "loop.example/macroexpander/laws.FnExactNamesOf", spec := "fnExactNamesOf", unfollowed := true, recurses := true, loops := true, apart := false, narrowed := true }
def FnExactNamesOfUptoSaid : Prop := fnExactNamesOfUptoRow.holds Try.pinned (OpenSpec.upto fnExactNamesOfSpec)

/-- 'laws.FnExactFormValid', WHERE WHAT IT READS IS OF BULK AT MOST 1048576: true; the input reads as it did. -/
def fnExactFormValidUptoRow : OpenClaim := { program := "ythjnbladlgkmnaa", sum := "b5ae9aa948684ac91a066776f6236617791d01ae758623f0b75fae597d755f72", func := "loop.example/macroexpander/laws.FnExactFormValid", spec := "fnExactFormValid", inPlace := ["internal/bytealg.IndexByteString"], recurses := true, loops := true, apart := false, narrowed := true }
def FnExactFormValidUptoSaid : Prop := fnExactFormValidUptoRow.holds Try.pinned (OpenSpec.upto fnExactFormValidSpec)

/-- 'laws.FnExactHitsSame', WHERE WHAT IT READS IS OF BULK AT MOST 1048576: true; the input reads as it did. -/
def fnExactHitsSameUptoRow : OpenClaim := { program := "ythjnbladlgkmnaa", sum := "b5ae9aa948684ac91a066776f6236617791d01ae758623f0b75fae597d755f72", func := "loop.example/macroexpander/laws.FnExactHitsSame", spec := "fnExactHitsSame", unfollowed := true, recurses := true, loops := true, apart := false, narrowed := true }
def FnExactHitsSameUptoSaid : Prop := fnExactHitsSameUptoRow.holds Try.pinned (OpenSpec.upto fnExactHitsSameSpec)

/-- 'laws.FnExactSameName', WHERE WHAT IT READS IS OF BULK AT MOST 1048576: true; the input reads as it did. -/
def fnExactSameNameUptoRow : OpenClaim := { program := "ythjnbladlgkmnaa", sum := "b5ae9aa948684ac91a066776f6236617791d01ae758623f0b75fae597d755f72", func := "loop.example/macroexpander/laws.FnExactSameName", spec := "fnExactSameName", inPlace := ["internal/bytealg.IndexByteString"], unfollowed := true, recurses := true, loops := true, apart := false, narrowed := true }
def FnExactSameNameUptoSaid : Prop := fnExactSameNameUptoRow.holds Try.pinned (OpenSpec.upto fnExactSameNameSpec)

/-- 'laws.FnExactListForm', WHERE WHAT IT READS IS OF BULK AT MOST 1048576: true; the input reads as it did. -/
def fnExactListFormUptoRow : OpenClaim := { program := "ythjnbladlgkmnaa", sum := "b5ae9aa948684ac91a066776f6236617791d01ae758623f0b75fae597d755f72", func := "loop.example/macroexpander/laws.FnExactListForm", spec := "fnExactListForm", inPlace := ["internal/bytealg.IndexByteString"], recurses := true, loops := true, apart := false, narrowed := true }
def FnExactListFormUptoSaid : Prop := fnExactListFormUptoRow.holds Try.pinned (OpenSpec.upto fnExactListFormSpec)

/-- 'laws.FnExactHitsValid', WHERE WHAT IT READS IS OF BULK AT MOST 1048576: true; the input reads as it did. -/
def fnExactHitsValidUptoRow : OpenClaim := { program := "ythjnbladlgkmnaa", sum := "b5ae9aa948684ac91a066776f6236617791d01ae758623f0b75fae597d755f72", func := "loop.example/macroexpander/laws.FnExactHitsValid", spec := "fnExactHitsValid", inPlace := ["internal/bytealg.IndexByteString"], unfollowed := true, recurses := true, loops := true, apart := false, narrowed := true }
def FnExactHitsValidUptoSaid : Prop := fnExactHitsValidUptoRow.holds Try.pinned (OpenSpec.upto fnExactHitsValidSpec)

/-- 'laws.FnExactPatternValid', WHERE WHAT IT READS IS OF BULK AT MOST 1048576: true; the input reads as it did. -/
def fnExactPatternValidUptoRow : OpenClaim := { program := "ythjnbladlgkmnaa", sum := "b5ae9aa948684ac91a066776f6236617791d01ae758623f0b75fae597d755f72", func := "loop.example/macroexpander/laws.FnExactPatternValid", spec := "fnExactPatternValid", inPlace := ["internal/bytealg.IndexByteString"], unfollowed := true, recurses := true, loops := true, apart := false, narrowed := true }
def FnExactPatternValidUptoSaid : Prop := fnExactPatternValidUptoRow.holds Try.pinned (OpenSpec.upto fnExactPatternValidSpec)

/-- 'laws.FnExactDropScope', WHERE WHAT IT READS IS OF BULK AT MOST 1048576: true; the input reads as it did. -/
def fnExactDropScopeUptoRow : OpenClaim := { program := "ythjnbladlgkmnaa", sum := "b5ae9aa948684ac91a066776f6236617791d01ae758623f0b75fae597d755f72", func := "loop.example/macroexpander/laws.FnExactDropScope", spec := "fnExactDropScope", inPlace := ["internal/bytealg.IndexByteString"], unfollowed := true, recurses := true, loops := true, apart := false, narrowed := true }
def FnExactDropScopeUptoSaid : Prop := fnExactDropScopeUptoRow.holds Try.pinned (OpenSpec.upto fnExactDropScopeSpec)

/-- 'laws.FnExactFindName', WHERE WHAT IT READS IS OF BULK AT MOST 1048576: true; the input reads as it did. -/
def fnExactFindNameUptoRow : OpenClaim := { program := "ythjnbladlgkmnaa", sum := "b5ae9aa948684ac91a066776f6236617791d01ae758623f0b75fae597d755f72", func := "loop.example/macroexpander/laws.FnExactFindName", spec := "fnExactFindName", inPlace := ["internal/bytealg.IndexByteString"], unfollowed := true, recurses := true, loops := true, apart := false, narrowed := true }
def FnExactFindNameUptoSaid : Prop := fnExactFindNameUptoRow.holds Try.pinned (OpenSpec.upto fnExactFindNameSpec)

/-- 'laws.FnExactSameReference', WHERE WHAT IT READS IS OF BULK AT MOST 1048576: true; the input reads as it did. -/
def fnExactSameReferenceUptoRow : OpenClaim := { program := "ythjnbladlgkmnaa", sum := "b5ae9aa948684ac91a066776f6236617791d01ae758623f0b75fae597d755f72", func := "loop.example/macroexpander/laws.FnExactSameReference", spec := "fnExactSameReference", inPlace := ["internal/bytealg.IndexByteString"], unfollowed := true, recurses := true, loops := true, apart := false, narrowed := true }
def FnExactSameReferenceUptoSaid : Prop := fnExactSameReferenceUptoRow.holds Try.pinned (OpenSpec.upto fnExactSameReferenceSpec)

/-- 'laws.FnExactFittingBinds', WHERE WHAT IT READS IS OF BULK AT MOST 1048576: true; the input reads as it did. -/
def fnExactFittingBindsUptoRow : OpenClaim := { program := "ythjnbladlgkmnaa", sum := "b5ae9aa948684ac91a066776f6236617791d01ae758623f0b75fae597d755f72", func := "loop.example/macroexpander/laws.FnExactFittingBinds", spec := "fnExactFittingBinds", inPlace := ["internal/bytealg.IndexByteString"], unfollowed := true, recurses := true, loops := true, apart := false, narrowed := true }
def FnExactFittingBindsUptoSaid : Prop := fnExactFittingBindsUptoRow.holds Try.pinned (OpenSpec.upto fnExactFittingBindsSpec)

/-- 'laws.FnExactAddBind', WHERE WHAT IT READS IS OF BULK AT MOST 1048576: true; the input reads as it did. -/
def fnExactAddBindUptoRow : OpenClaim := { program := "ythjnbladlgkmnaa", sum := "b5ae9aa948684ac91a066776f6236617791d01ae758623f0b75fae597d755f72", func := "loop.example/macroexpander/laws.FnExactAddBind", spec := "fnExactAddBind", inPlace := ["internal/bytealg.IndexByteString"], unfollowed := true, recurses := true, loops := true, apart := false, narrowed := true }
def FnExactAddBindUptoSaid : Prop := fnExactAddBindUptoRow.holds Try.pinned (OpenSpec.upto fnExactAddBindSpec)

/-- 'laws.FnExactVarDepths', WHERE WHAT IT READS IS OF BULK AT MOST 1048576: true; the input reads as it did. -/
def fnExactVarDepthsUptoRow : OpenClaim := { program := "ythjnbladlgkmnaa", sum := "b5ae9aa948684ac91a066776f6236617791d01ae758623f0b75fae597d755f72", func := "loop.example/macroexpander/laws.FnExactVarDepths", spec := "fnExactVarDepths", inPlace := ["internal/bytealg.IndexByteString"], unfollowed := true, recurses := true, loops := true, apart := false, narrowed := true }
def FnExactVarDepthsUptoSaid : Prop := fnExactVarDepthsUptoRow.holds Try.pinned (OpenSpec.upto fnExactVarDepthsSpec)

/-- 'laws.FnExactHiddenBinds', WHERE WHAT IT READS IS OF BULK AT MOST 1048576: true; the input reads as it did. -/
def fnExactHiddenBindsUptoRow : OpenClaim := { program := "ythjnbladlgkmnaa", sum := "b5ae9aa948684ac91a066776f6236617791d01ae758623f0b75fae597d755f72", func := "loop.example/macroexpander/laws.FnExactHiddenBinds", spec := "fnExactHiddenBinds", inPlace := ["internal/bytealg.IndexByteString"], unfollowed := true, recurses := true, loops := true, apart := false, narrowed := true }
def FnExactHiddenBindsUptoSaid : Prop := fnExactHiddenBindsUptoRow.holds Try.pinned (OpenSpec.upto fnExactHiddenBindsSpec)

/-- 'laws.FnExactAddScope', WHERE WHAT IT READS IS OF BULK AT MOST 1048576: true; the input reads as it did. -/
def fnExactAddScopeUptoRow : OpenClaim := { program := "ythjnbladlgkmnaa", sum := "b5ae9aa948684ac91a066776f6236617791d01ae758623f0b75fae597d755f72", func := "loop.example/macroexpander/laws.FnExactAddScope", spec := "fnExactAddScope", inPlace := ["slices.overlaps[int]", "internal/bytealg.IndexByteString"], unfollowed := true, recurses := true, loops := true, apart := false, narrowed := true }
def FnExactAddScopeUptoSaid : Prop := fnExactAddScopeUptoRow.holds Try.pinned (OpenSpec.upto fnExactAddScopeSpec)

/-- 'laws.FnExactDressLike', WHERE WHAT IT READS IS OF BULK AT MOST 1048576: true; the input reads as it did. -/
def fnExactDressLikeUptoRow : OpenClaim := { program := "ythjnbladlgkmnaa", sum := "b5ae9aa948684ac91a066776f6236617791d01ae758623f0b75fae597d755f72", func := "loop.example/macroexpander/laws.FnExactDressLike", spec := "fnExactDressLike", inPlace := ["internal/bytealg.IndexByteString", "slices.overlaps[int]"], unfollowed := true, recurses := true, loops := true, apart := false, narrowed := true }
def FnExactDressLikeUptoSaid : Prop := fnExactDressLikeUptoRow.holds Try.pinned (OpenSpec.upto fnExactDressLikeSpec)

/-- 'laws.FnExactFlipScope', WHERE WHAT IT READS IS OF BULK AT MOST 1048576: true; the input reads as it did. -/
def fnExactFlipScopeUptoRow : OpenClaim := { program := "ythjnbladlgkmnaa", sum := "b5ae9aa948684ac91a066776f6236617791d01ae758623f0b75fae597d755f72", func := "loop.example/macroexpander/laws.FnExactFlipScope", spec := "fnExactFlipScope", inPlace := ["slices.overlaps[int]", "internal/bytealg.IndexByteString"], unfollowed := true, recurses := true, loops := true, apart := false, narrowed := true }
def FnExactFlipScopeUptoSaid : Prop := fnExactFlipScopeUptoRow.holds Try.pinned (OpenSpec.upto fnExactFlipScopeSpec)

/-- 'laws.FnExactScopesOf', WHERE WHAT IT READS IS OF BULK AT MOST 1048576: true; the input reads as it did. -/
def fnExactScopesOfUptoRow : OpenClaim := { program := "ythjnbladlgkmnaa", sum := "b5ae9aa948684ac91a066776f6236617791d01ae758623f0b75fae597d755f72", func := "loop.example/macroexpander/laws.FnExactScopesOf", spec := "fnExactScopesOf", inPlace := ["internal/bytealg.IndexByteString"], unfollowed := true, recurses := true, loops := true, apart := false, narrowed := true }
def FnExactScopesOfUptoSaid : Prop := fnExactScopesOfUptoRow.holds Try.pinned (OpenSpec.upto fnExactScopesOfSpec)

end Rows
end Go.Proofs.Ythjnbladlgkmnaa
