/-
  No cell of these rows narrows 'for every input' (looked for: loops, veiled, ifaces, maps, wideKeys, modest, calm, conditions, laid).
  DERIVED. THE GIVEN ROWS OF THIS SEAT. 24 by the template 'for every input the law returns true; each argument reads behind the call as it read before'; 0 by the template 'total and deterministic' (their statements: YteonncnhhccgeaaTotals.lean).
  GIVEN WITH THE SEED: the statements are not yours to turn. If you find one false, say at which input.
  Laid BY PROGRAM, IN A SANDBOX (cutbox-rows.mjs): the forced cells as the released guide's own fill.sh prints them over the translation 587836ed70171574… (all of the seat's roots in one cut). By AI agents, Wed Nov 11 2026. No macro, syntax, notation, axiom, sorry.
-/
import Derived.Test.YteonncnhhccgeaaChecked
import GoSem.Claim
import GoSem.ClaimJoined
import GoSem.ClaimMapViews
import Derived.JoinedTies
import Derived.KernelRfl
namespace Go.Proofs.Yteonncnhhccgeaa
/- THE CELL 'sum', in the pinned program and in every row, IS THE sha256 OF THE DUMP (.gsa) THAT YteonncnhhccgeaaProg.lean LOADS. Nothing in Lean hashes anything: it is a label: what it is worth is what the hold of that sum in a sandbox is worth. -/
noncomputable def Try.pinned : Pinned := { name := "yteonncnhhccgeaa", sum := "587836ed7017157409a9cf80d9af38c6e29f1cbde516c729e0d9ac3b7a60b601", checked := Try.checked }
namespace Rows
def none {H : Type} : Left H := { results := [], args := [] }

/-- 'laws.FnScopesWithin': WHATEVER THE INPUT: true; the input reads as it did. -/
def fnScopesWithinSpec : ChangeSpec := { name := "fnScopesWithin", fn := fun _ => fun
  | [d1, d2] => { results := [.lit (.bool true)], args := [d1, d2] }
  | _ => none }
def fnScopesWithinRow : OpenClaim := { program := "yteonncnhhccgeaa", sum := "587836ed7017157409a9cf80d9af38c6e29f1cbde516c729e0d9ac3b7a60b601", func := "loop.example/macroexpander/laws.FnScopesWithin", spec := "fnScopesWithin", unfollowed := true, recurses := true, apart := false }
def FnScopesWithinSaid : Prop := fnScopesWithinRow.holds Try.pinned (OpenSpec.ofChange fnScopesWithinSpec)

/-- ITS FALSE NEIGHBOUR: 'it returns false'. Refute it at one input. -/
def fnScopesWithinWrong : ChangeSpec := { name := "fnScopesWithin", fn := fun _ => fun
  | [d1, d2] => { results := [.lit (.bool false)], args := [d1, d2] }
  | _ => none }
def FnScopesWithinWrongFalsely : Prop := fnScopesWithinRow.holds Try.pinned (OpenSpec.ofChange fnScopesWithinWrong)

/-- 'laws.FnWithinSame': WHATEVER THE INPUT: true; the input reads as it did. -/
def fnWithinSameSpec : ChangeSpec := { name := "fnWithinSame", fn := fun _ => fun
  | [d] => { results := [.lit (.bool true)], args := [d] }
  | _ => none }
def fnWithinSameRow : OpenClaim := { program := "yteonncnhhccgeaa", sum := "587836ed7017157409a9cf80d9af38c6e29f1cbde516c729e0d9ac3b7a60b601", func := "loop.example/macroexpander/laws.FnWithinSame", spec := "fnWithinSame", unfollowed := true, recurses := true, apart := false }
def FnWithinSameSaid : Prop := fnWithinSameRow.holds Try.pinned (OpenSpec.ofChange fnWithinSameSpec)

/-- ITS FALSE NEIGHBOUR: 'it returns false'. Refute it at one input. -/
def fnWithinSameWrong : ChangeSpec := { name := "fnWithinSame", fn := fun _ => fun
  | [d] => { results := [.lit (.bool false)], args := [d] }
  | _ => none }
def FnWithinSameWrongFalsely : Prop := fnWithinSameRow.holds Try.pinned (OpenSpec.ofChange fnWithinSameWrong)

/-- 'laws.FnAddScope': WHATEVER THE INPUT: true; the input reads as it did. -/
def fnAddScopeSpec : ChangeSpec := { name := "fnAddScope", fn := fun _ => fun
  | [d] => { results := [.lit (.bool true)], args := [d] }
  | _ => none }
def fnAddScopeRow : OpenClaim := { program := "yteonncnhhccgeaa", sum := "587836ed7017157409a9cf80d9af38c6e29f1cbde516c729e0d9ac3b7a60b601", func := "loop.example/macroexpander/laws.FnAddScope", spec := "fnAddScope", inPlace := ["slices.overlaps[int]", "internal/bytealg.IndexByteString"], unfollowed := true, recurses := true, apart := false }
def FnAddScopeSaid : Prop := fnAddScopeRow.holds Try.pinned (OpenSpec.ofChange fnAddScopeSpec)

/-- ITS FALSE NEIGHBOUR: 'it returns false'. Refute it at one input. -/
def fnAddScopeWrong : ChangeSpec := { name := "fnAddScope", fn := fun _ => fun
  | [d] => { results := [.lit (.bool false)], args := [d] }
  | _ => none }
def FnAddScopeWrongFalsely : Prop := fnAddScopeRow.holds Try.pinned (OpenSpec.ofChange fnAddScopeWrong)

/-- 'laws.FnNamesOf': WHATEVER THE INPUT: true; the input reads as it did. -/
def fnNamesOfSpec : ChangeSpec := { name := "fnNamesOf", fn := fun _ => fun
  | [d] => { results := [.lit (.bool true)], args := [d] }
  | _ => none }
def fnNamesOfRow : OpenClaim := { program := "yteonncnhhccgeaa", sum := "587836ed7017157409a9cf80d9af38c6e29f1cbde516c729e0d9ac3b7a60b601", func := "loop.example/macroexpander/laws.FnNamesOf", spec := "fnNamesOf", unfollowed := true, recurses := true, apart := false }
def FnNamesOfSaid : Prop := fnNamesOfRow.holds Try.pinned (OpenSpec.ofChange fnNamesOfSpec)

/-- ITS FALSE NEIGHBOUR: 'it returns false'. Refute it at one input. -/
def fnNamesOfWrong : ChangeSpec := { name := "fnNamesOf", fn := fun _ => fun
  | [d] => { results := [.lit (.bool false)], args := [d] }
  | _ => none }
def FnNamesOfWrongFalsely : Prop := fnNamesOfRow.holds Try.pinned (OpenSpec.ofChange fnNamesOfWrong)

/-- 'laws.FnNamesParts': WHATEVER THE INPUT: true; the input reads as it did. -/
def fnNamesPartsSpec : ChangeSpec := { name := "fnNamesParts", fn := fun _ => fun
  | [d] => { results := [.lit (.bool true)], args := [d] }
  | _ => none }
def fnNamesPartsRow : OpenClaim := { program := "yteonncnhhccgeaa", sum := "587836ed7017157409a9cf80d9af38c6e29f1cbde516c729e0d9ac3b7a60b601", func := "loop.example/macroexpander/laws.FnNamesParts", spec := "fnNamesParts", unfollowed := true, recurses := true, apart := false }
def FnNamesPartsSaid : Prop := fnNamesPartsRow.holds Try.pinned (OpenSpec.ofChange fnNamesPartsSpec)

/-- ITS FALSE NEIGHBOUR: 'it returns false'. Refute it at one input. -/
def fnNamesPartsWrong : ChangeSpec := { name := "fnNamesParts", fn := fun _ => fun
  | [d] => { results := [.lit (.bool false)], args := [d] }
  | _ => none }
def FnNamesPartsWrongFalsely : Prop := fnNamesPartsRow.holds Try.pinned (OpenSpec.ofChange fnNamesPartsWrong)

/-- 'laws.FnDropScope': WHATEVER THE INPUT: true; the input reads as it did. -/
def fnDropScopeSpec : ChangeSpec := { name := "fnDropScope", fn := fun _ => fun
  | [d] => { results := [.lit (.bool true)], args := [d] }
  | _ => none }
def fnDropScopeRow : OpenClaim := { program := "yteonncnhhccgeaa", sum := "587836ed7017157409a9cf80d9af38c6e29f1cbde516c729e0d9ac3b7a60b601", func := "loop.example/macroexpander/laws.FnDropScope", spec := "fnDropScope", inPlace := ["internal/bytealg.IndexByteString", "slices.overlaps[int]"], unfollowed := true, recurses := true, apart := false }
def FnDropScopeSaid : Prop := fnDropScopeRow.holds Try.pinned (OpenSpec.ofChange fnDropScopeSpec)

/-- ITS FALSE NEIGHBOUR: 'it returns false'. Refute it at one input. -/
def fnDropScopeWrong : ChangeSpec := { name := "fnDropScope", fn := fun _ => fun
  | [d] => { results := [.lit (.bool false)], args := [d] }
  | _ => none }
def FnDropScopeWrongFalsely : Prop := fnDropScopeRow.holds Try.pinned (OpenSpec.ofChange fnDropScopeWrong)

/-- 'laws.FnStripForm': WHATEVER THE INPUT: true; the input reads as it did. -/
def fnStripFormSpec : ChangeSpec := { name := "fnStripForm", fn := fun _ => fun
  | [d] => { results := [.lit (.bool true)], args := [d] }
  | _ => none }
def fnStripFormRow : OpenClaim := { program := "yteonncnhhccgeaa", sum := "587836ed7017157409a9cf80d9af38c6e29f1cbde516c729e0d9ac3b7a60b601", func := "loop.example/macroexpander/laws.FnStripForm", spec := "fnStripForm", inPlace := ["internal/bytealg.IndexByteString"], unfollowed := true, recurses := true, apart := false }
def FnStripFormSaid : Prop := fnStripFormRow.holds Try.pinned (OpenSpec.ofChange fnStripFormSpec)

/-- ITS FALSE NEIGHBOUR: 'it returns false'. Refute it at one input. -/
def fnStripFormWrong : ChangeSpec := { name := "fnStripForm", fn := fun _ => fun
  | [d] => { results := [.lit (.bool false)], args := [d] }
  | _ => none }
def FnStripFormWrongFalsely : Prop := fnStripFormRow.holds Try.pinned (OpenSpec.ofChange fnStripFormWrong)

/-- 'laws.FnBindsParts': WHATEVER THE INPUT: true; the input reads as it did. -/
def fnBindsPartsSpec : ChangeSpec := { name := "fnBindsParts", fn := fun _ => fun
  | [d] => { results := [.lit (.bool true)], args := [d] }
  | _ => none }
def fnBindsPartsRow : OpenClaim := { program := "yteonncnhhccgeaa", sum := "587836ed7017157409a9cf80d9af38c6e29f1cbde516c729e0d9ac3b7a60b601", func := "loop.example/macroexpander/laws.FnBindsParts", spec := "fnBindsParts", inPlace := ["internal/bytealg.IndexByteString"], unfollowed := true, recurses := true, apart := false }
def FnBindsPartsSaid : Prop := fnBindsPartsRow.holds Try.pinned (OpenSpec.ofChange fnBindsPartsSpec)

/-- ITS FALSE NEIGHBOUR: 'it returns false'. Refute it at one input. -/
def fnBindsPartsWrong : ChangeSpec := { name := "fnBindsParts", fn := fun _ => fun
  | [d] => { results := [.lit (.bool false)], args := [d] }
  | _ => none }
def FnBindsPartsWrongFalsely : Prop := fnBindsPartsRow.holds Try.pinned (OpenSpec.ofChange fnBindsPartsWrong)

/-- 'laws.FnDressLike': WHATEVER THE INPUT: true; the input reads as it did. -/
def fnDressLikeSpec : ChangeSpec := { name := "fnDressLike", fn := fun _ => fun
  | [d] => { results := [.lit (.bool true)], args := [d] }
  | _ => none }
def fnDressLikeRow : OpenClaim := { program := "yteonncnhhccgeaa", sum := "587836ed7017157409a9cf80d9af38c6e29f1cbde516c729e0d9ac3b7a60b601", func := "loop.example/macroexpander/laws.FnDressLike", spec := "fnDressLike", inPlace := ["internal/bytealg.IndexByteString", "slices.overlaps[int]"], unfollowed := true, recurses := true, apart := false }
def FnDressLikeSaid : Prop := fnDressLikeRow.holds Try.pinned (OpenSpec.ofChange fnDressLikeSpec)

/-- ITS FALSE NEIGHBOUR: 'it returns false'. Refute it at one input. -/
def fnDressLikeWrong : ChangeSpec := { name := "fnDressLike", fn := fun _ => fun
  | [d] => { results := [.lit (.bool false)], args := [d] }
  | _ => none }
def FnDressLikeWrongFalsely : Prop := fnDressLikeRow.holds Try.pinned (OpenSpec.ofChange fnDressLikeWrong)

/-- 'laws.FnFindOrder': WHATEVER THE INPUT: true; the input reads as it did. -/
def fnFindOrderSpec : ChangeSpec := { name := "fnFindOrder", fn := fun _ => fun
  | [d] => { results := [.lit (.bool true)], args := [d] }
  | _ => none }
def fnFindOrderRow : OpenClaim := { program := "yteonncnhhccgeaa", sum := "587836ed7017157409a9cf80d9af38c6e29f1cbde516c729e0d9ac3b7a60b601", func := "loop.example/macroexpander/laws.FnFindOrder", spec := "fnFindOrder", inPlace := ["internal/bytealg.IndexByteString"], unfollowed := true, recurses := true, apart := false }
def FnFindOrderSaid : Prop := fnFindOrderRow.holds Try.pinned (OpenSpec.ofChange fnFindOrderSpec)

/-- ITS FALSE NEIGHBOUR: 'it returns false'. Refute it at one input. -/
def fnFindOrderWrong : ChangeSpec := { name := "fnFindOrder", fn := fun _ => fun
  | [d] => { results := [.lit (.bool false)], args := [d] }
  | _ => none }
def FnFindOrderWrongFalsely : Prop := fnFindOrderRow.holds Try.pinned (OpenSpec.ofChange fnFindOrderWrong)

/-- 'laws.FnAddBind': WHATEVER THE INPUT: true; the input reads as it did. -/
def fnAddBindSpec : ChangeSpec := { name := "fnAddBind", fn := fun _ => fun
  | [d] => { results := [.lit (.bool true)], args := [d] }
  | _ => none }
def fnAddBindRow : OpenClaim := { program := "yteonncnhhccgeaa", sum := "587836ed7017157409a9cf80d9af38c6e29f1cbde516c729e0d9ac3b7a60b601", func := "loop.example/macroexpander/laws.FnAddBind", spec := "fnAddBind", inPlace := ["internal/bytealg.IndexByteString"], unfollowed := true, recurses := true, apart := false }
def FnAddBindSaid : Prop := fnAddBindRow.holds Try.pinned (OpenSpec.ofChange fnAddBindSpec)

/-- ITS FALSE NEIGHBOUR: 'it returns false'. Refute it at one input. -/
def fnAddBindWrong : ChangeSpec := { name := "fnAddBind", fn := fun _ => fun
  | [d] => { results := [.lit (.bool false)], args := [d] }
  | _ => none }
def FnAddBindWrongFalsely : Prop := fnAddBindRow.holds Try.pinned (OpenSpec.ofChange fnAddBindWrong)

/-- 'laws.FnFindAlone': WHATEVER THE INPUT: true; the input reads as it did. -/
def fnFindAloneSpec : ChangeSpec := { name := "fnFindAlone", fn := fun _ => fun
  | [d] => { results := [.lit (.bool true)], args := [d] }
  | _ => none }
def fnFindAloneRow : OpenClaim := { program := "yteonncnhhccgeaa", sum := "587836ed7017157409a9cf80d9af38c6e29f1cbde516c729e0d9ac3b7a60b601", func := "loop.example/macroexpander/laws.FnFindAlone", spec := "fnFindAlone", inPlace := ["internal/bytealg.IndexByteString"], unfollowed := true, recurses := true, apart := false }
def FnFindAloneSaid : Prop := fnFindAloneRow.holds Try.pinned (OpenSpec.ofChange fnFindAloneSpec)

/-- ITS FALSE NEIGHBOUR: 'it returns false'. Refute it at one input. -/
def fnFindAloneWrong : ChangeSpec := { name := "fnFindAlone", fn := fun _ => fun
  | [d] => { results := [.lit (.bool false)], args := [d] }
  | _ => none }
def FnFindAloneWrongFalsely : Prop := fnFindAloneRow.holds Try.pinned (OpenSpec.ofChange fnFindAloneWrong)

/-- 'laws.FnFindName': WHATEVER THE INPUT: true; the input reads as it did. -/
def fnFindNameSpec : ChangeSpec := { name := "fnFindName", fn := fun _ => fun
  | [d] => { results := [.lit (.bool true)], args := [d] }
  | _ => none }
def fnFindNameRow : OpenClaim := { program := "yteonncnhhccgeaa", sum := "587836ed7017157409a9cf80d9af38c6e29f1cbde516c729e0d9ac3b7a60b601", func := "loop.example/macroexpander/laws.FnFindName", spec := "fnFindName", inPlace := ["internal/bytealg.IndexByteString"], unfollowed := true, recurses := true, apart := false }
def FnFindNameSaid : Prop := fnFindNameRow.holds Try.pinned (OpenSpec.ofChange fnFindNameSpec)

/-- ITS FALSE NEIGHBOUR: 'it returns false'. Refute it at one input. -/
def fnFindNameWrong : ChangeSpec := { name := "fnFindName", fn := fun _ => fun
  | [d] => { results := [.lit (.bool false)], args := [d] }
  | _ => none }
def FnFindNameWrongFalsely : Prop := fnFindNameRow.holds Try.pinned (OpenSpec.ofChange fnFindNameWrong)

/-- 'laws.FnReferenceTrans': WHATEVER THE INPUT: true; the input reads as it did. -/
def fnReferenceTransSpec : ChangeSpec := { name := "fnReferenceTrans", fn := fun _ => fun
  | [d1, d2] => { results := [.lit (.bool true)], args := [d1, d2] }
  | _ => none }
def fnReferenceTransRow : OpenClaim := { program := "yteonncnhhccgeaa", sum := "587836ed7017157409a9cf80d9af38c6e29f1cbde516c729e0d9ac3b7a60b601", func := "loop.example/macroexpander/laws.FnReferenceTrans", spec := "fnReferenceTrans", inPlace := ["internal/bytealg.IndexByteString"], unfollowed := true, recurses := true, apart := false }
def FnReferenceTransSaid : Prop := fnReferenceTransRow.holds Try.pinned (OpenSpec.ofChange fnReferenceTransSpec)

/-- ITS FALSE NEIGHBOUR: 'it returns false'. Refute it at one input. -/
def fnReferenceTransWrong : ChangeSpec := { name := "fnReferenceTrans", fn := fun _ => fun
  | [d1, d2] => { results := [.lit (.bool false)], args := [d1, d2] }
  | _ => none }
def FnReferenceTransWrongFalsely : Prop := fnReferenceTransRow.holds Try.pinned (OpenSpec.ofChange fnReferenceTransWrong)

/-- 'laws.FnSameReference': WHATEVER THE INPUT: true; the input reads as it did. -/
def fnSameReferenceSpec : ChangeSpec := { name := "fnSameReference", fn := fun _ => fun
  | [d] => { results := [.lit (.bool true)], args := [d] }
  | _ => none }
def fnSameReferenceRow : OpenClaim := { program := "yteonncnhhccgeaa", sum := "587836ed7017157409a9cf80d9af38c6e29f1cbde516c729e0d9ac3b7a60b601", func := "loop.example/macroexpander/laws.FnSameReference", spec := "fnSameReference", inPlace := ["internal/bytealg.IndexByteString"], unfollowed := true, recurses := true, apart := false }
def FnSameReferenceSaid : Prop := fnSameReferenceRow.holds Try.pinned (OpenSpec.ofChange fnSameReferenceSpec)

/-- ITS FALSE NEIGHBOUR: 'it returns false'. Refute it at one input. -/
def fnSameReferenceWrong : ChangeSpec := { name := "fnSameReference", fn := fun _ => fun
  | [d] => { results := [.lit (.bool false)], args := [d] }
  | _ => none }
def FnSameReferenceWrongFalsely : Prop := fnSameReferenceRow.holds Try.pinned (OpenSpec.ofChange fnSameReferenceWrong)

/-- 'laws.FnSameName': WHATEVER THE INPUT: true; the input reads as it did. -/
def fnSameNameSpec : ChangeSpec := { name := "fnSameName", fn := fun _ => fun
  | [d] => { results := [.lit (.bool true)], args := [d] }
  | _ => none }
def fnSameNameRow : OpenClaim := { program := "yteonncnhhccgeaa", sum := "587836ed7017157409a9cf80d9af38c6e29f1cbde516c729e0d9ac3b7a60b601", func := "loop.example/macroexpander/laws.FnSameName", spec := "fnSameName", inPlace := ["internal/bytealg.IndexByteString", "slices.overlaps[int]"], unfollowed := true, recurses := true, apart := false }
def FnSameNameSaid : Prop := fnSameNameRow.holds Try.pinned (OpenSpec.ofChange fnSameNameSpec)

/-- ITS FALSE NEIGHBOUR: 'it returns false'. Refute it at one input. -/
def fnSameNameWrong : ChangeSpec := { name := "fnSameName", fn := fun _ => fun
  | [d] => { results := [.lit (.bool false)], args := [d] }
  | _ => none }
def FnSameNameWrongFalsely : Prop := fnSameNameRow.holds Try.pinned (OpenSpec.ofChange fnSameNameWrong)

/-- 'laws.FnFindOther': WHATEVER THE INPUT: true; the input reads as it did. -/
def fnFindOtherSpec : ChangeSpec := { name := "fnFindOther", fn := fun _ => fun
  | [d] => { results := [.lit (.bool true)], args := [d] }
  | _ => none }
def fnFindOtherRow : OpenClaim := { program := "yteonncnhhccgeaa", sum := "587836ed7017157409a9cf80d9af38c6e29f1cbde516c729e0d9ac3b7a60b601", func := "loop.example/macroexpander/laws.FnFindOther", spec := "fnFindOther", inPlace := ["internal/bytealg.IndexByteString"], unfollowed := true, recurses := true, apart := false }
def FnFindOtherSaid : Prop := fnFindOtherRow.holds Try.pinned (OpenSpec.ofChange fnFindOtherSpec)

/-- ITS FALSE NEIGHBOUR: 'it returns false'. Refute it at one input. -/
def fnFindOtherWrong : ChangeSpec := { name := "fnFindOther", fn := fun _ => fun
  | [d] => { results := [.lit (.bool false)], args := [d] }
  | _ => none }
def FnFindOtherWrongFalsely : Prop := fnFindOtherRow.holds Try.pinned (OpenSpec.ofChange fnFindOtherWrong)

/-- 'laws.FnFindWithout': WHATEVER THE INPUT: true; the input reads as it did. -/
def fnFindWithoutSpec : ChangeSpec := { name := "fnFindWithout", fn := fun _ => fun
  | [d] => { results := [.lit (.bool true)], args := [d] }
  | _ => none }
def fnFindWithoutRow : OpenClaim := { program := "yteonncnhhccgeaa", sum := "587836ed7017157409a9cf80d9af38c6e29f1cbde516c729e0d9ac3b7a60b601", func := "loop.example/macroexpander/laws.FnFindWithout", spec := "fnFindWithout", inPlace := ["internal/bytealg.IndexByteString"], unfollowed := true, recurses := true, apart := false }
def FnFindWithoutSaid : Prop := fnFindWithoutRow.holds Try.pinned (OpenSpec.ofChange fnFindWithoutSpec)

/-- ITS FALSE NEIGHBOUR: 'it returns false'. Refute it at one input. -/
def fnFindWithoutWrong : ChangeSpec := { name := "fnFindWithout", fn := fun _ => fun
  | [d] => { results := [.lit (.bool false)], args := [d] }
  | _ => none }
def FnFindWithoutWrongFalsely : Prop := fnFindWithoutRow.holds Try.pinned (OpenSpec.ofChange fnFindWithoutWrong)

/-- 'laws.FnHiddenBinds': WHATEVER THE INPUT: true; the input reads as it did. -/
def fnHiddenBindsSpec : ChangeSpec := { name := "fnHiddenBinds", fn := fun _ => fun
  | [d] => { results := [.lit (.bool true)], args := [d] }
  | _ => none }
def fnHiddenBindsRow : OpenClaim := { program := "yteonncnhhccgeaa", sum := "587836ed7017157409a9cf80d9af38c6e29f1cbde516c729e0d9ac3b7a60b601", func := "loop.example/macroexpander/laws.FnHiddenBinds", spec := "fnHiddenBinds", inPlace := ["internal/bytealg.IndexByteString"], unfollowed := true, recurses := true, apart := false }
def FnHiddenBindsSaid : Prop := fnHiddenBindsRow.holds Try.pinned (OpenSpec.ofChange fnHiddenBindsSpec)

/-- ITS FALSE NEIGHBOUR: 'it returns false'. Refute it at one input. -/
def fnHiddenBindsWrong : ChangeSpec := { name := "fnHiddenBinds", fn := fun _ => fun
  | [d] => { results := [.lit (.bool false)], args := [d] }
  | _ => none }
def FnHiddenBindsWrongFalsely : Prop := fnHiddenBindsRow.holds Try.pinned (OpenSpec.ofChange fnHiddenBindsWrong)

/-- 'laws.FnDressTwice': WHATEVER THE INPUT: true; the input reads as it did. -/
def fnDressTwiceSpec : ChangeSpec := { name := "fnDressTwice", fn := fun _ => fun
  | [d] => { results := [.lit (.bool true)], args := [d] }
  | _ => none }
def fnDressTwiceRow : OpenClaim := { program := "yteonncnhhccgeaa", sum := "587836ed7017157409a9cf80d9af38c6e29f1cbde516c729e0d9ac3b7a60b601", func := "loop.example/macroexpander/laws.FnDressTwice", spec := "fnDressTwice", inPlace := ["internal/bytealg.IndexByteString", "slices.overlaps[int]"], unfollowed := true, recurses := true, apart := false }
def FnDressTwiceSaid : Prop := fnDressTwiceRow.holds Try.pinned (OpenSpec.ofChange fnDressTwiceSpec)

/-- ITS FALSE NEIGHBOUR: 'it returns false'. Refute it at one input. -/
def fnDressTwiceWrong : ChangeSpec := { name := "fnDressTwice", fn := fun _ => fun
  | [d] => { results := [.lit (.bool false)], args := [d] }
  | _ => none }
def FnDressTwiceWrongFalsely : Prop := fnDressTwiceRow.holds Try.pinned (OpenSpec.ofChange fnDressTwiceWrong)

/-- 'laws.FnFittingBinds': WHATEVER THE INPUT: true; the input reads as it did. -/
def fnFittingBindsSpec : ChangeSpec := { name := "fnFittingBinds", fn := fun _ => fun
  | [d] => { results := [.lit (.bool true)], args := [d] }
  | _ => none }
def fnFittingBindsRow : OpenClaim := { program := "yteonncnhhccgeaa", sum := "587836ed7017157409a9cf80d9af38c6e29f1cbde516c729e0d9ac3b7a60b601", func := "loop.example/macroexpander/laws.FnFittingBinds", spec := "fnFittingBinds", inPlace := ["internal/bytealg.IndexByteString", "slices.overlaps[int]"], unfollowed := true, recurses := true, apart := false }
def FnFittingBindsSaid : Prop := fnFittingBindsRow.holds Try.pinned (OpenSpec.ofChange fnFittingBindsSpec)

/-- ITS FALSE NEIGHBOUR: 'it returns false'. Refute it at one input. -/
def fnFittingBindsWrong : ChangeSpec := { name := "fnFittingBinds", fn := fun _ => fun
  | [d] => { results := [.lit (.bool false)], args := [d] }
  | _ => none }
def FnFittingBindsWrongFalsely : Prop := fnFittingBindsRow.holds Try.pinned (OpenSpec.ofChange fnFittingBindsWrong)

/-- 'laws.FnFindMore': WHATEVER THE INPUT: true; the input reads as it did. -/
def fnFindMoreSpec : ChangeSpec := { name := "fnFindMore", fn := fun _ => fun
  | [d] => { results := [.lit (.bool true)], args := [d] }
  | _ => none }
def fnFindMoreRow : OpenClaim := { program := "yteonncnhhccgeaa", sum := "587836ed7017157409a9cf80d9af38c6e29f1cbde516c729e0d9ac3b7a60b601", func := "loop.example/macroexpander/laws.FnFindMore", spec := "fnFindMore", inPlace := ["internal/bytealg.IndexByteString", "slices.overlaps[int]"], unfollowed := true, recurses := true, apart := false }
def FnFindMoreSaid : Prop := fnFindMoreRow.holds Try.pinned (OpenSpec.ofChange fnFindMoreSpec)

/-- ITS FALSE NEIGHBOUR: 'it returns false'. Refute it at one input. -/
def fnFindMoreWrong : ChangeSpec := { name := "fnFindMore", fn := fun _ => fun
  | [d] => { results := [.lit (.bool false)], args := [d] }
  | _ => none }
def FnFindMoreWrongFalsely : Prop := fnFindMoreRow.holds Try.pinned (OpenSpec.ofChange fnFindMoreWrong)

/-- 'laws.FnScopesOf': WHATEVER THE INPUT: true; the input reads as it did. -/
def fnScopesOfSpec : ChangeSpec := { name := "fnScopesOf", fn := fun _ => fun
  | [d] => { results := [.lit (.bool true)], args := [d] }
  | _ => none }
def fnScopesOfRow : OpenClaim := { program := "yteonncnhhccgeaa", sum := "587836ed7017157409a9cf80d9af38c6e29f1cbde516c729e0d9ac3b7a60b601", func := "loop.example/macroexpander/laws.FnScopesOf", spec := "fnScopesOf", inPlace := ["internal/bytealg.IndexByteString"], unfollowed := true, recurses := true, apart := false }
def FnScopesOfSaid : Prop := fnScopesOfRow.holds Try.pinned (OpenSpec.ofChange fnScopesOfSpec)

/-- ITS FALSE NEIGHBOUR: 'it returns false'. Refute it at one input. -/
def fnScopesOfWrong : ChangeSpec := { name := "fnScopesOf", fn := fun _ => fun
  | [d] => { results := [.lit (.bool false)], args := [d] }
  | _ => none }
def FnScopesOfWrongFalsely : Prop := fnScopesOfRow.holds Try.pinned (OpenSpec.ofChange fnScopesOfWrong)

/-- 'laws.FnDropAll': WHATEVER THE INPUT: true; the input reads as it did. -/
def fnDropAllSpec : ChangeSpec := { name := "fnDropAll", fn := fun _ => fun
  | [d] => { results := [.lit (.bool true)], args := [d] }
  | _ => none }
def fnDropAllRow : OpenClaim := { program := "yteonncnhhccgeaa", sum := "587836ed7017157409a9cf80d9af38c6e29f1cbde516c729e0d9ac3b7a60b601", func := "loop.example/macroexpander/laws.FnDropAll", spec := "fnDropAll", inPlace := ["internal/bytealg.IndexByteString"], unfollowed := true, recurses := true, apart := false }
def FnDropAllSaid : Prop := fnDropAllRow.holds Try.pinned (OpenSpec.ofChange fnDropAllSpec)

/-- ITS FALSE NEIGHBOUR: 'it returns false'. Refute it at one input. -/
def fnDropAllWrong : ChangeSpec := { name := "fnDropAll", fn := fun _ => fun
  | [d] => { results := [.lit (.bool false)], args := [d] }
  | _ => none }
def FnDropAllWrongFalsely : Prop := fnDropAllRow.holds Try.pinned (OpenSpec.ofChange fnDropAllWrong)

/- THE SECOND FORM. 'bulk': how many values and letters a reading holds, each counted each time it is reached (what is shared counts as often as it is met; a slice's spare places count too). A statement '..UptoSaid' is the law's where the arguments, and the package variables that the reading takes, are together of bulk at most 1048576: NARROWER than '..Said'. Prove '..Said' where nothing that the law and all that it calls make is longer than what came in: it says more and counts as full. Else prove '..UptoSaid'. A law counts once. -/
mutual
def uptoBulk {H : Type} : DataW H → Nat
  | .lit (.string bytes) => bytes.length + 1
  | .lit _ => 1
  | .nil => 1
  | .ptr d => uptoBulk d + 1
  | .slice elems spare => uptoBulkAll elems + uptoBulkAll spare + 1
  | .agg parts => uptoBulkAll parts + 1
  | .iface _ d => uptoBulk d + 1
  | .map entries => uptoBulkEntries entries + 1
  | .held _ => 1
def uptoBulkAll {H : Type} : List (DataW H) → Nat
  | [] => 0
  | d :: r => uptoBulk d + uptoBulkAll r
def uptoBulkEntries {H : Type} : List (Lit × DataW H) → Nat
  | [] => 0
  | x :: r => uptoBulkEntry x + uptoBulkEntries r
def uptoBulkEntry {H : Type} : Lit × DataW H → Nat
  | (.string bytes, d) => bytes.length + uptoBulk d + 1
  | (_, d) => uptoBulk d + 1
 end
def uptoSmall : (H : Type) → List (DataW H) → Bool := fun _ ds => decide (uptoBulkAll ds ≤ 1048576)
def OpenSpec.upto (s : _root_.Go.ChangeSpec) : _root_.Go.OpenSpec := { _root_.Go.OpenSpec.ofChange s with cond := some uptoSmall }

/-- 'laws.FnScopesWithin', WHERE WHAT IT READS IS OF BULK AT MOST 1048576: true; the input reads as it did. -/
def fnScopesWithinUptoRow : OpenClaim := { program := "yteonncnhhccgeaa", sum := "587836ed7017157409a9cf80d9af38c6e29f1cbde516c729e0d9ac3b7a60b601", func := "loop.example/macroexpander/laws.FnScopesWithin", spec := "fnScopesWithin", unfollowed := true, recurses := true, apart := false, narrowed := true }
def FnScopesWithinUptoSaid : Prop := fnScopesWithinUptoRow.holds Try.pinned (OpenSpec.upto fnScopesWithinSpec)

/-- 'laws.FnWithinSame', WHERE WHAT IT READS IS OF BULK AT MOST 1048576: true; the input reads as it did. -/
def fnWithinSameUptoRow : OpenClaim := { program := "yteonncnhhccgeaa", sum := "587836ed7017157409a9cf80d9af38c6e29f1cbde516c729e0d9ac3b7a60b601", func := "loop.example/macroexpander/laws.FnWithinSame", spec := "fnWithinSame", unfollowed := true, recurses := true, apart := false, narrowed := true }
def FnWithinSameUptoSaid : Prop := fnWithinSameUptoRow.holds Try.pinned (OpenSpec.upto fnWithinSameSpec)

/-- 'laws.FnAddScope', WHERE WHAT IT READS IS OF BULK AT MOST 1048576: true; the input reads as it did. -/
def fnAddScopeUptoRow : OpenClaim := { program := "yteonncnhhccgeaa", sum := "587836ed7017157409a9cf80d9af38c6e29f1cbde516c729e0d9ac3b7a60b601", func := "loop.example/macroexpander/laws.FnAddScope", spec := "fnAddScope", inPlace := ["slices.overlaps[int]", "internal/bytealg.IndexByteString"], unfollowed := true, recurses := true, apart := false, narrowed := true }
def FnAddScopeUptoSaid : Prop := fnAddScopeUptoRow.holds Try.pinned (OpenSpec.upto fnAddScopeSpec)

/-- 'laws.FnNamesOf', WHERE WHAT IT READS IS OF BULK AT MOST 1048576: true; the input reads as it did. -/
def fnNamesOfUptoRow : OpenClaim := { program := "yteonncnhhccgeaa", sum := "587836ed7017157409a9cf80d9af38c6e29f1cbde516c729e0d9ac3b7a60b601", func := "loop.example/macroexpander/laws.FnNamesOf", spec := "fnNamesOf", unfollowed := true, recurses := true, apart := false, narrowed := true }
def FnNamesOfUptoSaid : Prop := fnNamesOfUptoRow.holds Try.pinned (OpenSpec.upto fnNamesOfSpec)

/-- 'laws.FnNamesParts', WHERE WHAT IT READS IS OF BULK AT MOST 1048576: true; the input reads as it did. -/
def fnNamesPartsUptoRow : OpenClaim := { program := "yteonncnhhccgeaa", sum := "587836ed7017157409a9cf80d9af38c6e29f1cbde516c729e0d9ac3b7a60b601", func := "loop.example/macroexpander/laws.FnNamesParts", spec := "fnNamesParts", unfollowed := true, recurses := true, apart := false, narrowed := true }
def FnNamesPartsUptoSaid : Prop := fnNamesPartsUptoRow.holds Try.pinned (OpenSpec.upto fnNamesPartsSpec)

/-- 'laws.FnDropScope', WHERE WHAT IT READS IS OF BULK AT MOST 1048576: true; the input reads as it did. -/
def fnDropScopeUptoRow : OpenClaim := { program := "yteonncnhhccgeaa", sum := "587836ed7017157409a9cf80d9af38c6e29f1cbde516c729e0d9ac3b7a60b601", func := "loop.example/macroexpander/laws.FnDropScope", spec := "fnDropScope", inPlace := ["internal/bytealg.IndexByteString", "slices.overlaps[int]"], unfollowed := true, recurses := true, apart := false, narrowed := true }
def FnDropScopeUptoSaid : Prop := fnDropScopeUptoRow.holds Try.pinned (OpenSpec.upto fnDropScopeSpec)

/-- 'laws.FnStripForm', WHERE WHAT IT READS IS OF BULK AT MOST 1048576: true; the input reads as it did. -/
def fnStripFormUptoRow : OpenClaim := { program := "yteonncnhhccgeaa", sum := "587836ed7017157409a9cf80d9af38c6e29f1cbde516c729e0d9ac3b7a60b601", func := "loop.example/macroexpander/laws.FnStripForm", spec := "fnStripForm", inPlace := ["internal/bytealg.IndexByteString"], unfollowed := true, recurses := true, apart := false, narrowed := true }
def FnStripFormUptoSaid : Prop := fnStripFormUptoRow.holds Try.pinned (OpenSpec.upto fnStripFormSpec)

/-- 'laws.FnBindsParts', WHERE WHAT IT READS IS OF BULK AT MOST 1048576: true; the input reads as it did. -/
def fnBindsPartsUptoRow : OpenClaim := { program := "yteonncnhhccgeaa", sum := "587836ed7017157409a9cf80d9af38c6e29f1cbde516c729e0d9ac3b7a60b601", func := "loop.example/macroexpander/laws.FnBindsParts", spec := "fnBindsParts", inPlace := ["internal/bytealg.IndexByteString"], unfollowed := true, recurses := true, apart := false, narrowed := true }
def FnBindsPartsUptoSaid : Prop := fnBindsPartsUptoRow.holds Try.pinned (OpenSpec.upto fnBindsPartsSpec)

/-- 'laws.FnDressLike', WHERE WHAT IT READS IS OF BULK AT MOST 1048576: true; the input reads as it did. -/
def fnDressLikeUptoRow : OpenClaim := { program := "yteonncnhhccgeaa", sum := "587836ed7017157409a9cf80d9af38c6e29f1cbde516c729e0d9ac3b7a60b601", func := "loop.example/macroexpander/laws.FnDressLike", spec := "fnDressLike", inPlace := ["internal/bytealg.IndexByteString", "slices.overlaps[int]"], unfollowed := true, recurses := true, apart := false, narrowed := true }
def FnDressLikeUptoSaid : Prop := fnDressLikeUptoRow.holds Try.pinned (OpenSpec.upto fnDressLikeSpec)

/-- 'laws.FnFindOrder', WHERE WHAT IT READS IS OF BULK AT MOST 1048576: true; the input reads as it did. -/
def fnFindOrderUptoRow : OpenClaim := { program := "yteonncnhhccgeaa", sum := "587836ed7017157409a9cf80d9af38c6e29f1cbde516c729e0d9ac3b7a60b601", func := "loop.example/macroexpander/laws.FnFindOrder", spec := "fnFindOrder", inPlace := ["internal/bytealg.IndexByteString"], unfollowed := true, recurses := true, apart := false, narrowed := true }
def FnFindOrderUptoSaid : Prop := fnFindOrderUptoRow.holds Try.pinned (OpenSpec.upto fnFindOrderSpec)

/-- 'laws.FnAddBind', WHERE WHAT IT READS IS OF BULK AT MOST 1048576: true; the input reads as it did. -/
def fnAddBindUptoRow : OpenClaim := { program := "yteonncnhhccgeaa", sum := "587836ed7017157409a9cf80d9af38c6e29f1cbde516c729e0d9ac3b7a60b601", func := "loop.example/macroexpander/laws.FnAddBind", spec := "fnAddBind", inPlace := ["internal/bytealg.IndexByteString"], unfollowed := true, recurses := true, apart := false, narrowed := true }
def FnAddBindUptoSaid : Prop := fnAddBindUptoRow.holds Try.pinned (OpenSpec.upto fnAddBindSpec)

/-- 'laws.FnFindAlone', WHERE WHAT IT READS IS OF BULK AT MOST 1048576: true; the input reads as it did. -/
def fnFindAloneUptoRow : OpenClaim := { program := "yteonncnhhccgeaa", sum := "587836ed7017157409a9cf80d9af38c6e29f1cbde516c729e0d9ac3b7a60b601", func := "loop.example/macroexpander/laws.FnFindAlone", spec := "fnFindAlone", inPlace := ["internal/bytealg.IndexByteString"], unfollowed := true, recurses := true, apart := false, narrowed := true }
def FnFindAloneUptoSaid : Prop := fnFindAloneUptoRow.holds Try.pinned (OpenSpec.upto fnFindAloneSpec)

/-- 'laws.FnFindName', WHERE WHAT IT READS IS OF BULK AT MOST 1048576: true; the input reads as it did. -/
def fnFindNameUptoRow : OpenClaim := { program := "yteonncnhhccgeaa", sum := "587836ed7017157409a9cf80d9af38c6e29f1cbde516c729e0d9ac3b7a60b601", func := "loop.example/macroexpander/laws.FnFindName", spec := "fnFindName", inPlace := ["internal/bytealg.IndexByteString"], unfollowed := true, recurses := true, apart := false, narrowed := true }
def FnFindNameUptoSaid : Prop := fnFindNameUptoRow.holds Try.pinned (OpenSpec.upto fnFindNameSpec)

/-- 'laws.FnReferenceTrans', WHERE WHAT IT READS IS OF BULK AT MOST 1048576: true; the input reads as it did. -/
def fnReferenceTransUptoRow : OpenClaim := { program := "yteonncnhhccgeaa", sum := "587836ed7017157409a9cf80d9af38c6e29f1cbde516c729e0d9ac3b7a60b601", func := "loop.example/macroexpander/laws.FnReferenceTrans", spec := "fnReferenceTrans", inPlace := ["internal/bytealg.IndexByteString"], unfollowed := true, recurses := true, apart := false, narrowed := true }
def FnReferenceTransUptoSaid : Prop := fnReferenceTransUptoRow.holds Try.pinned (OpenSpec.upto fnReferenceTransSpec)

/-- 'laws.FnSameReference', WHERE WHAT IT READS IS OF BULK AT MOST 1048576: true; the input reads as it did. -/
def fnSameReferenceUptoRow : OpenClaim := { program := "yteonncnhhccgeaa", sum := "587836ed7017157409a9cf80d9af38c6e29f1cbde516c729e0d9ac3b7a60b601", func := "loop.example/macroexpander/laws.FnSameReference", spec := "fnSameReference", inPlace := ["internal/bytealg.IndexByteString"], unfollowed := true, recurses := true, apart := false, narrowed := true }
def FnSameReferenceUptoSaid : Prop := fnSameReferenceUptoRow.holds Try.pinned (OpenSpec.upto fnSameReferenceSpec)

/-- 'laws.FnSameName', WHERE WHAT IT READS IS OF BULK AT MOST 1048576: true; the input reads as it did. -/
def fnSameNameUptoRow : OpenClaim := { program := "yteonncnhhccgeaa", sum := "587836ed7017157409a9cf80d9af38c6e29f1cbde516c729e0d9ac3b7a60b601", func := "loop.example/macroexpander/laws.FnSameName", spec := "fnSameName", inPlace := ["internal/bytealg.IndexByteString", "slices.overlaps[int]"], unfollowed := true, recurses := true, apart := false, narrowed := true }
def FnSameNameUptoSaid : Prop := fnSameNameUptoRow.holds Try.pinned (OpenSpec.upto fnSameNameSpec)

/-- 'laws.FnFindOther', WHERE WHAT IT READS IS OF BULK AT MOST 1048576: true; the input reads as it did. -/
def fnFindOtherUptoRow : OpenClaim := { program := "yteonncnhhccgeaa", sum := "587836ed7017157409a9cf80d9af38c6e29f1cbde516c729e0d9ac3b7a60b601", func := "loop.example/macroexpander/laws.FnFindOther", spec := "fnFindOther", inPlace := ["internal/bytealg.IndexByteString"], unfollowed := true, recurses := true, apart := false, narrowed := true }
def FnFindOtherUptoSaid : Prop := fnFindOtherUptoRow.holds Try.pinned (OpenSpec.upto fnFindOtherSpec)

/-- 'laws.FnFindWithout', WHERE WHAT IT READS IS OF BULK AT MOST 1048576: true; the input reads as it did. -/
def fnFindWithoutUptoRow : OpenClaim := { program := "yteonncnhhccgeaa", sum := "587836ed7017157409a9cf80d9af38c6e29f1cbde516c729e0d9ac3b7a60b601", func := "loop.example/macroexpander/laws.FnFindWithout", spec := "fnFindWithout", inPlace := ["internal/bytealg.IndexByteString"], unfollowed := true, recurses := true, apart := false, narrowed := true }
def FnFindWithoutUptoSaid : Prop := fnFindWithoutUptoRow.holds Try.pinned (OpenSpec.upto fnFindWithoutSpec)

/-- 'laws.FnHiddenBinds', WHERE WHAT IT READS IS OF BULK AT MOST 1048576: true; the input reads as it did. -/
def fnHiddenBindsUptoRow : OpenClaim := { program := "yteonncnhhccgeaa", sum := "587836ed7017157409a9cf80d9af38c6e29f1cbde516c729e0d9ac3b7a60b601", func := "loop.example/macroexpander/laws.FnHiddenBinds", spec := "fnHiddenBinds", inPlace := ["internal/bytealg.IndexByteString"], unfollowed := true, recurses := true, apart := false, narrowed := true }
def FnHiddenBindsUptoSaid : Prop := fnHiddenBindsUptoRow.holds Try.pinned (OpenSpec.upto fnHiddenBindsSpec)

/-- 'laws.FnDressTwice', WHERE WHAT IT READS IS OF BULK AT MOST 1048576: true; the input reads as it did. -/
def fnDressTwiceUptoRow : OpenClaim := { program := "yteonncnhhccgeaa", sum := "587836ed7017157409a9cf80d9af38c6e29f1cbde516c729e0d9ac3b7a60b601", func := "loop.example/macroexpander/laws.FnDressTwice", spec := "fnDressTwice", inPlace := ["internal/bytealg.IndexByteString", "slices.overlaps[int]"], unfollowed := true, recurses := true, apart := false, narrowed := true }
def FnDressTwiceUptoSaid : Prop := fnDressTwiceUptoRow.holds Try.pinned (OpenSpec.upto fnDressTwiceSpec)

/-- 'laws.FnFittingBinds', WHERE WHAT IT READS IS OF BULK AT MOST 1048576: true; the input reads as it did. -/
def fnFittingBindsUptoRow : OpenClaim := { program := "yteonncnhhccgeaa", sum := "587836ed7017157409a9cf80d9af38c6e29f1cbde516c729e0d9ac3b7a60b601", func := "loop.example/macroexpander/laws.FnFittingBinds", spec := "fnFittingBinds", inPlace := ["internal/bytealg.IndexByteString", "slices.overlaps[int]"], unfollowed := true, recurses := true, apart := false, narrowed := true }
def FnFittingBindsUptoSaid : Prop := fnFittingBindsUptoRow.holds Try.pinned (OpenSpec.upto fnFittingBindsSpec)

/-- 'laws.FnFindMore', WHERE WHAT IT READS IS OF BULK AT MOST 1048576: true; the input reads as it did. -/
def fnFindMoreUptoRow : OpenClaim := { program := "yteonncnhhccgeaa", sum := "587836ed7017157409a9cf80d9af38c6e29f1cbde516c729e0d9ac3b7a60b601", func := "loop.example/macroexpander/laws.FnFindMore", spec := "fnFindMore", inPlace := ["internal/bytealg.IndexByteString", "slices.overlaps[int]"], unfollowed := true, recurses := true, apart := false, narrowed := true }
def FnFindMoreUptoSaid : Prop := fnFindMoreUptoRow.holds Try.pinned (OpenSpec.upto fnFindMoreSpec)

/-- 'laws.FnScopesOf', WHERE WHAT IT READS IS OF BULK AT MOST 1048576: true; the input reads as it did. -/
def fnScopesOfUptoRow : OpenClaim := { program := "yteonncnhhccgeaa", sum := "587836ed7017157409a9cf80d9af38c6e29f1cbde516c729e0d9ac3b7a60b601", func := "loop.example/macroexpander/laws.FnScopesOf", spec := "fnScopesOf", inPlace := ["internal/bytealg.IndexByteString"], unfollowed := true, recurses := true, apart := false, narrowed := true }
def FnScopesOfUptoSaid : Prop := fnScopesOfUptoRow.holds Try.pinned (OpenSpec.upto fnScopesOfSpec)

/-- 'laws.FnDropAll', WHERE WHAT IT READS IS OF BULK AT MOST 1048576: true; the input reads as it did. -/
def fnDropAllUptoRow : OpenClaim := { program := "yteonncnhhccgeaa", sum := "587836ed7017157409a9cf80d9af38c6e29f1cbde516c729e0d9ac3b7a60b601", func := "loop.example/macroexpander/laws.FnDropAll", spec := "fnDropAll", inPlace := ["internal/bytealg.IndexByteString"], unfollowed := true, recurses := true, apart := false, narrowed := true }
def FnDropAllUptoSaid : Prop := fnDropAllUptoRow.holds Try.pinned (OpenSpec.upto fnDropAllSpec)

end Rows
end Go.Proofs.Yteonncnhhccgeaa
