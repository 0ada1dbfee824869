/-
  No cell of these rows narrows 'for every input' (looked for: loops, veiled, ifaces, maps, wideKeys, modest, calm, conditions, laid).
  DERIVED. THE GIVEN ROWS OF THIS SEAT. 12 by the template 'for every input the law returns true; each argument reads behind the call as it read before'; 0 by the template 'total and deterministic' (their statements: YtcbomlmlindjdaaTotals.lean).
  GIVEN WITH THE SEED: the statements are not yours to turn. If you find one false, say at which input.
  Laid BY PROGRAM, IN A SANDBOX (cutbox-rows.mjs): the forced cells as the released guide's own fill.sh prints them over the translation 85890735b0665882… (all of the seat's roots in one cut). By AI agents, Wed Nov 11 2026. No macro, syntax, notation, axiom, sorry.
-/
import Derived.Test.YtcbomlmlindjdaaChecked
import GoSem.Claim
import GoSem.ClaimJoined
import GoSem.ClaimMapViews
import Derived.JoinedTies
import Derived.KernelRfl
namespace Go.Proofs.Ytcbomlmlindjdaa
/- THE CELL 'sum', in the pinned program and in every row, IS THE sha256 OF THE DUMP (.gsa) THAT YtcbomlmlindjdaaProg.lean LOADS. Nothing in Lean hashes anything: it is a label: what it is worth is what the hold of that sum in a sandbox is worth. -/
noncomputable def Try.pinned : Pinned := { name := "ytcbomlmlindjdaa", sum := "85890735b0665882aca7bccdd2cba3853e9eb21ee05caa317995b201fb6bbe48", checked := Try.checked }
namespace Rows
def none {H : Type} : Left H := { results := [], args := [] }

/-- 'laws.FnBindsParts': WHATEVER THE INPUT: true; the input reads as it did. -/
def fnBindsPartsSpec : ChangeSpec := { name := "fnBindsParts", fn := fun _ => fun
  | [d] => { results := [.lit (.bool true)], args := [d] }
  | _ => none }
def fnBindsPartsRow : OpenClaim := { program := "ytcbomlmlindjdaa", sum := "85890735b0665882aca7bccdd2cba3853e9eb21ee05caa317995b201fb6bbe48", func := "loop.example/macroexpander/laws.FnBindsParts", spec := "fnBindsParts", inPlace := ["internal/bytealg.IndexByteString"], unfollowed := true, recurses := true, apart := false }
def FnBindsPartsSaid : Prop := fnBindsPartsRow.holds Try.pinned (OpenSpec.ofChange fnBindsPartsSpec)

/-- ITS FALSE NEIGHBOUR: 'it returns false'. Refute it at one input. -/
def fnBindsPartsWrong : ChangeSpec := { name := "fnBindsParts", fn := fun _ => fun
  | [d] => { results := [.lit (.bool false)], args := [d] }
  | _ => none }
def FnBindsPartsWrongFalsely : Prop := fnBindsPartsRow.holds Try.pinned (OpenSpec.ofChange fnBindsPartsWrong)

/-- 'laws.FnFindOrder': WHATEVER THE INPUT: true; the input reads as it did. -/
def fnFindOrderSpec : ChangeSpec := { name := "fnFindOrder", fn := fun _ => fun
  | [d] => { results := [.lit (.bool true)], args := [d] }
  | _ => none }
def fnFindOrderRow : OpenClaim := { program := "ytcbomlmlindjdaa", sum := "85890735b0665882aca7bccdd2cba3853e9eb21ee05caa317995b201fb6bbe48", func := "loop.example/macroexpander/laws.FnFindOrder", spec := "fnFindOrder", inPlace := ["internal/bytealg.IndexByteString"], unfollowed := true, recurses := true, apart := false }
def FnFindOrderSaid : Prop := fnFindOrderRow.holds Try.pinned (OpenSpec.ofChange fnFindOrderSpec)

/-- ITS FALSE NEIGHBOUR: 'it returns false'. Refute it at one input. -/
def fnFindOrderWrong : ChangeSpec := { name := "fnFindOrder", fn := fun _ => fun
  | [d] => { results := [.lit (.bool false)], args := [d] }
  | _ => none }
def FnFindOrderWrongFalsely : Prop := fnFindOrderRow.holds Try.pinned (OpenSpec.ofChange fnFindOrderWrong)

/-- 'laws.FnAddBind': WHATEVER THE INPUT: true; the input reads as it did. -/
def fnAddBindSpec : ChangeSpec := { name := "fnAddBind", fn := fun _ => fun
  | [d] => { results := [.lit (.bool true)], args := [d] }
  | _ => none }
def fnAddBindRow : OpenClaim := { program := "ytcbomlmlindjdaa", sum := "85890735b0665882aca7bccdd2cba3853e9eb21ee05caa317995b201fb6bbe48", func := "loop.example/macroexpander/laws.FnAddBind", spec := "fnAddBind", inPlace := ["internal/bytealg.IndexByteString"], unfollowed := true, recurses := true, apart := false }
def FnAddBindSaid : Prop := fnAddBindRow.holds Try.pinned (OpenSpec.ofChange fnAddBindSpec)

/-- ITS FALSE NEIGHBOUR: 'it returns false'. Refute it at one input. -/
def fnAddBindWrong : ChangeSpec := { name := "fnAddBind", fn := fun _ => fun
  | [d] => { results := [.lit (.bool false)], args := [d] }
  | _ => none }
def FnAddBindWrongFalsely : Prop := fnAddBindRow.holds Try.pinned (OpenSpec.ofChange fnAddBindWrong)

/-- 'laws.FnFindAlone': WHATEVER THE INPUT: true; the input reads as it did. -/
def fnFindAloneSpec : ChangeSpec := { name := "fnFindAlone", fn := fun _ => fun
  | [d] => { results := [.lit (.bool true)], args := [d] }
  | _ => none }
def fnFindAloneRow : OpenClaim := { program := "ytcbomlmlindjdaa", sum := "85890735b0665882aca7bccdd2cba3853e9eb21ee05caa317995b201fb6bbe48", func := "loop.example/macroexpander/laws.FnFindAlone", spec := "fnFindAlone", inPlace := ["internal/bytealg.IndexByteString"], unfollowed := true, recurses := true, apart := false }
def FnFindAloneSaid : Prop := fnFindAloneRow.holds Try.pinned (OpenSpec.ofChange fnFindAloneSpec)

/-- ITS FALSE NEIGHBOUR: 'it returns false'. Refute it at one input. -/
def fnFindAloneWrong : ChangeSpec := { name := "fnFindAlone", fn := fun _ => fun
  | [d] => { results := [.lit (.bool false)], args := [d] }
  | _ => none }
def FnFindAloneWrongFalsely : Prop := fnFindAloneRow.holds Try.pinned (OpenSpec.ofChange fnFindAloneWrong)

/-- 'laws.FnFindName': WHATEVER THE INPUT: true; the input reads as it did. -/
def fnFindNameSpec : ChangeSpec := { name := "fnFindName", fn := fun _ => fun
  | [d] => { results := [.lit (.bool true)], args := [d] }
  | _ => none }
def fnFindNameRow : OpenClaim := { program := "ytcbomlmlindjdaa", sum := "85890735b0665882aca7bccdd2cba3853e9eb21ee05caa317995b201fb6bbe48", func := "loop.example/macroexpander/laws.FnFindName", spec := "fnFindName", inPlace := ["internal/bytealg.IndexByteString"], unfollowed := true, recurses := true, apart := false }
def FnFindNameSaid : Prop := fnFindNameRow.holds Try.pinned (OpenSpec.ofChange fnFindNameSpec)

/-- ITS FALSE NEIGHBOUR: 'it returns false'. Refute it at one input. -/
def fnFindNameWrong : ChangeSpec := { name := "fnFindName", fn := fun _ => fun
  | [d] => { results := [.lit (.bool false)], args := [d] }
  | _ => none }
def FnFindNameWrongFalsely : Prop := fnFindNameRow.holds Try.pinned (OpenSpec.ofChange fnFindNameWrong)

/-- 'laws.FnReferenceTrans': WHATEVER THE INPUT: true; the input reads as it did. -/
def fnReferenceTransSpec : ChangeSpec := { name := "fnReferenceTrans", fn := fun _ => fun
  | [d1, d2] => { results := [.lit (.bool true)], args := [d1, d2] }
  | _ => none }
def fnReferenceTransRow : OpenClaim := { program := "ytcbomlmlindjdaa", sum := "85890735b0665882aca7bccdd2cba3853e9eb21ee05caa317995b201fb6bbe48", func := "loop.example/macroexpander/laws.FnReferenceTrans", spec := "fnReferenceTrans", inPlace := ["internal/bytealg.IndexByteString"], unfollowed := true, recurses := true, apart := false }
def FnReferenceTransSaid : Prop := fnReferenceTransRow.holds Try.pinned (OpenSpec.ofChange fnReferenceTransSpec)

/-- ITS FALSE NEIGHBOUR: 'it returns false'. Refute it at one input. -/
def fnReferenceTransWrong : ChangeSpec := { name := "fnReferenceTrans", fn := fun _ => fun
  | [d1, d2] => { results := [.lit (.bool false)], args := [d1, d2] }
  | _ => none }
def FnReferenceTransWrongFalsely : Prop := fnReferenceTransRow.holds Try.pinned (OpenSpec.ofChange fnReferenceTransWrong)

/-- 'laws.FnSameReference': WHATEVER THE INPUT: true; the input reads as it did. -/
def fnSameReferenceSpec : ChangeSpec := { name := "fnSameReference", fn := fun _ => fun
  | [d] => { results := [.lit (.bool true)], args := [d] }
  | _ => none }
def fnSameReferenceRow : OpenClaim := { program := "ytcbomlmlindjdaa", sum := "85890735b0665882aca7bccdd2cba3853e9eb21ee05caa317995b201fb6bbe48", func := "loop.example/macroexpander/laws.FnSameReference", spec := "fnSameReference", inPlace := ["internal/bytealg.IndexByteString"], unfollowed := true, recurses := true, apart := false }
def FnSameReferenceSaid : Prop := fnSameReferenceRow.holds Try.pinned (OpenSpec.ofChange fnSameReferenceSpec)

/-- ITS FALSE NEIGHBOUR: 'it returns false'. Refute it at one input. -/
def fnSameReferenceWrong : ChangeSpec := { name := "fnSameReference", fn := fun _ => fun
  | [d] => { results := [.lit (.bool false)], args := [d] }
  | _ => none }
def FnSameReferenceWrongFalsely : Prop := fnSameReferenceRow.holds Try.pinned (OpenSpec.ofChange fnSameReferenceWrong)

/-- 'laws.FnFindOther': WHATEVER THE INPUT: true; the input reads as it did. -/
def fnFindOtherSpec : ChangeSpec := { name := "fnFindOther", fn := fun _ => fun
  | [d] => { results := [.lit (.bool true)], args := [d] }
  | _ => none }
def fnFindOtherRow : OpenClaim := { program := "ytcbomlmlindjdaa", sum := "85890735b0665882aca7bccdd2cba3853e9eb21ee05caa317995b201fb6bbe48", func := "loop.example/macroexpander/laws.FnFindOther", spec := "fnFindOther", inPlace := ["internal/bytealg.IndexByteString"], unfollowed := true, recurses := true, apart := false }
def FnFindOtherSaid : Prop := fnFindOtherRow.holds Try.pinned (OpenSpec.ofChange fnFindOtherSpec)

/-- ITS FALSE NEIGHBOUR: 'it returns false'. Refute it at one input. -/
def fnFindOtherWrong : ChangeSpec := { name := "fnFindOther", fn := fun _ => fun
  | [d] => { results := [.lit (.bool false)], args := [d] }
  | _ => none }
def FnFindOtherWrongFalsely : Prop := fnFindOtherRow.holds Try.pinned (OpenSpec.ofChange fnFindOtherWrong)

/-- 'laws.FnFindWithout': WHATEVER THE INPUT: true; the input reads as it did. -/
def fnFindWithoutSpec : ChangeSpec := { name := "fnFindWithout", fn := fun _ => fun
  | [d] => { results := [.lit (.bool true)], args := [d] }
  | _ => none }
def fnFindWithoutRow : OpenClaim := { program := "ytcbomlmlindjdaa", sum := "85890735b0665882aca7bccdd2cba3853e9eb21ee05caa317995b201fb6bbe48", func := "loop.example/macroexpander/laws.FnFindWithout", spec := "fnFindWithout", inPlace := ["internal/bytealg.IndexByteString"], unfollowed := true, recurses := true, apart := false }
def FnFindWithoutSaid : Prop := fnFindWithoutRow.holds Try.pinned (OpenSpec.ofChange fnFindWithoutSpec)

/-- ITS FALSE NEIGHBOUR: 'it returns false'. Refute it at one input. -/
def fnFindWithoutWrong : ChangeSpec := { name := "fnFindWithout", fn := fun _ => fun
  | [d] => { results := [.lit (.bool false)], args := [d] }
  | _ => none }
def FnFindWithoutWrongFalsely : Prop := fnFindWithoutRow.holds Try.pinned (OpenSpec.ofChange fnFindWithoutWrong)

/-- 'laws.FnHiddenBinds': WHATEVER THE INPUT: true; the input reads as it did. -/
def fnHiddenBindsSpec : ChangeSpec := { name := "fnHiddenBinds", fn := fun _ => fun
  | [d] => { results := [.lit (.bool true)], args := [d] }
  | _ => none }
def fnHiddenBindsRow : OpenClaim := { program := "ytcbomlmlindjdaa", sum := "85890735b0665882aca7bccdd2cba3853e9eb21ee05caa317995b201fb6bbe48", func := "loop.example/macroexpander/laws.FnHiddenBinds", spec := "fnHiddenBinds", inPlace := ["internal/bytealg.IndexByteString"], unfollowed := true, recurses := true, apart := false }
def FnHiddenBindsSaid : Prop := fnHiddenBindsRow.holds Try.pinned (OpenSpec.ofChange fnHiddenBindsSpec)

/-- ITS FALSE NEIGHBOUR: 'it returns false'. Refute it at one input. -/
def fnHiddenBindsWrong : ChangeSpec := { name := "fnHiddenBinds", fn := fun _ => fun
  | [d] => { results := [.lit (.bool false)], args := [d] }
  | _ => none }
def FnHiddenBindsWrongFalsely : Prop := fnHiddenBindsRow.holds Try.pinned (OpenSpec.ofChange fnHiddenBindsWrong)

/-- 'laws.FnFittingBinds': WHATEVER THE INPUT: true; the input reads as it did. -/
def fnFittingBindsSpec : ChangeSpec := { name := "fnFittingBinds", fn := fun _ => fun
  | [d] => { results := [.lit (.bool true)], args := [d] }
  | _ => none }
def fnFittingBindsRow : OpenClaim := { program := "ytcbomlmlindjdaa", sum := "85890735b0665882aca7bccdd2cba3853e9eb21ee05caa317995b201fb6bbe48", func := "loop.example/macroexpander/laws.FnFittingBinds", spec := "fnFittingBinds", inPlace := ["internal/bytealg.IndexByteString", "slices.overlaps[int]"], unfollowed := true, recurses := true, apart := false }
def FnFittingBindsSaid : Prop := fnFittingBindsRow.holds Try.pinned (OpenSpec.ofChange fnFittingBindsSpec)

/-- ITS FALSE NEIGHBOUR: 'it returns false'. Refute it at one input. -/
def fnFittingBindsWrong : ChangeSpec := { name := "fnFittingBinds", fn := fun _ => fun
  | [d] => { results := [.lit (.bool false)], args := [d] }
  | _ => none }
def FnFittingBindsWrongFalsely : Prop := fnFittingBindsRow.holds Try.pinned (OpenSpec.ofChange fnFittingBindsWrong)

/-- 'laws.FnFindMore': WHATEVER THE INPUT: true; the input reads as it did. -/
def fnFindMoreSpec : ChangeSpec := { name := "fnFindMore", fn := fun _ => fun
  | [d] => { results := [.lit (.bool true)], args := [d] }
  | _ => none }
def fnFindMoreRow : OpenClaim := { program := "ytcbomlmlindjdaa", sum := "85890735b0665882aca7bccdd2cba3853e9eb21ee05caa317995b201fb6bbe48", func := "loop.example/macroexpander/laws.FnFindMore", spec := "fnFindMore", inPlace := ["internal/bytealg.IndexByteString", "slices.overlaps[int]"], unfollowed := true, recurses := true, apart := false }
def FnFindMoreSaid : Prop := fnFindMoreRow.holds Try.pinned (OpenSpec.ofChange fnFindMoreSpec)

/-- ITS FALSE NEIGHBOUR: 'it returns false'. Refute it at one input. -/
def fnFindMoreWrong : ChangeSpec := { name := "fnFindMore", fn := fun _ => fun
  | [d] => { results := [.lit (.bool false)], args := [d] }
  | _ => none }
def FnFindMoreWrongFalsely : Prop := fnFindMoreRow.holds Try.pinned (OpenSpec.ofChange fnFindMoreWrong)

/- THE SECOND FORM. 'bulk': how many values and letters a reading holds, each counted each time it is reached (what is shared counts as often as it is met; a slice's spare places count too). A statement '..UptoSaid' is the law's where the arguments, and the package variables that the reading takes, are together of bulk at most 1048576: NARROWER than '..Said'. Prove '..Said' where nothing that the law and all that it calls make is longer than what came in: it says more and counts as full. Else prove '..UptoSaid'. A law counts once. -/
mutual
def uptoBulk {H : Type} : DataW H → Nat
  | .lit (.string bytes) => bytes.length + 1
  | .lit _ => 1
  | .nil => 1
  | .ptr d => uptoBulk d + 1
  | .slice elems spare => uptoBulkAll elems + uptoBulkAll spare + 1
  | .agg parts => uptoBulkAll parts + 1
  | .iface _ d => uptoBulk d + 1
  | .map entries => uptoBulkEntries entries + 1
  | .held _ => 1
def uptoBulkAll {H : Type} : List (DataW H) → Nat
  | [] => 0
  | d :: r => uptoBulk d + uptoBulkAll r
def uptoBulkEntries {H : Type} : List (Lit × DataW H) → Nat
  | [] => 0
  | x :: r => uptoBulkEntry x + uptoBulkEntries r
def uptoBulkEntry {H : Type} : Lit × DataW H → Nat
  | (.string bytes, d) => bytes.length + uptoBulk d + 1
  | (_, d) => uptoBulk d + 1
 end
def uptoSmall : (H : Type) → List (DataW H) → Bool := fun _ ds => decide (uptoBulkAll ds ≤ 1048576)
def OpenSpec.upto (s : _root_.Go.ChangeSpec) : _root_.Go.OpenSpec := { _root_.Go.OpenSpec.ofChange s with cond := some uptoSmall }

/-- 'laws.FnBindsParts', WHERE WHAT IT READS IS OF BULK AT MOST 1048576: true; the input reads as it did. -/
def fnBindsPartsUptoRow : OpenClaim := { program := "ytcbomlmlindjdaa", sum := "85890735b0665882aca7bccdd2cba3853e9eb21ee05caa317995b201fb6bbe48", func := "loop.example/macroexpander/laws.FnBindsParts", spec := "fnBindsParts", inPlace := ["internal/bytealg.IndexByteString"], unfollowed := true, recurses := true, apart := false, narrowed := true }
def FnBindsPartsUptoSaid : Prop := fnBindsPartsUptoRow.holds Try.pinned (OpenSpec.upto fnBindsPartsSpec)

/-- 'laws.FnFindOrder', WHERE WHAT IT READS IS OF BULK AT MOST 1048576: true; the input reads as it did. -/
def fnFindOrderUptoRow : OpenClaim := { program := "ytcbomlmlindjdaa", sum := "85890735b0665882aca7bccdd2cba3853e9eb21ee05caa317995b201fb6bbe48", func := "loop.example/macroexpander/laws.FnFindOrder", spec := "fnFindOrder", inPlace := ["internal/bytealg.IndexByteString"], unfollowed := true, recurses := true, apart := false, narrowed := true }
def FnFindOrderUptoSaid : Prop := fnFindOrderUptoRow.holds Try.pinned (OpenSpec.upto fnFindOrderSpec)

/-- 'laws.FnAddBind', WHERE WHAT IT READS IS OF BULK AT MOST 1048576: true; the input reads as it did. -/
def fnAddBindUptoRow : OpenClaim := { program := "ytcbomlmlindjdaa", sum := "85890735b0665882aca7bccdd2cba3853e9eb21ee05caa317995b201fb6bbe48", func := "loop.example/macroexpander/laws.FnAddBind", spec := "fnAddBind", inPlace := ["internal/bytealg.IndexByteString"], unfollowed := true, recurses := true, apart := false, narrowed := true }
def FnAddBindUptoSaid : Prop := fnAddBindUptoRow.holds Try.pinned (OpenSpec.upto fnAddBindSpec)

/-- 'laws.FnFindAlone', WHERE WHAT IT READS IS OF BULK AT MOST 1048576: true; the input reads as it did. -/
def fnFindAloneUptoRow : OpenClaim := { program := "ytcbomlmlindjdaa", sum := "85890735b0665882aca7bccdd2cba3853e9eb21ee05caa317995b201fb6bbe48", func := "loop.example/macroexpander/laws.FnFindAlone", spec := "fnFindAlone", inPlace := ["internal/bytealg.IndexByteString"], unfollowed := true, recurses := true, apart := false, narrowed := true }
def FnFindAloneUptoSaid : Prop := fnFindAloneUptoRow.holds Try.pinned (OpenSpec.upto fnFindAloneSpec)

/-- 'laws.FnFindName', WHERE WHAT IT READS IS OF BULK AT MOST 1048576: true; the input reads as it did. -/
def fnFindNameUptoRow : OpenClaim := { program := "ytcbomlmlindjdaa", sum := "85890735b0665882aca7bccdd2cba3853e9eb21ee05caa317995b201fb6bbe48", func := "loop.example/macroexpander/laws.FnFindName", spec := "fnFindName", inPlace := ["internal/bytealg.IndexByteString"], unfollowed := true, recurses := true, apart := false, narrowed := true }
def FnFindNameUptoSaid : Prop := fnFindNameUptoRow.holds Try.pinned (OpenSpec.upto fnFindNameSpec)

/-- 'laws.FnReferenceTrans', WHERE WHAT IT READS IS OF BULK AT MOST 1048576: true; the input reads as it did. -/
def fnReferenceTransUptoRow : OpenClaim := { program := "ytcbomlmlindjdaa", sum := "85890735b0665882aca7bccdd2cba3853e9eb21ee05caa317995b201fb6bbe48", func := "loop.example/macroexpander/laws.FnReferenceTrans", spec := "fnReferenceTrans", inPlace := ["internal/bytealg.IndexByteString"], unfollowed := true, recurses := true, apart := false, narrowed := true }
def FnReferenceTransUptoSaid : Prop := fnReferenceTransUptoRow.holds Try.pinned (OpenSpec.upto fnReferenceTransSpec)

/-- 'laws.FnSameReference', WHERE WHAT IT READS IS OF BULK AT MOST 1048576: true; the input reads as it did. -/
def fnSameReferenceUptoRow : OpenClaim := { program := "ytcbomlmlindjdaa", sum := "85890735b0665882aca7bccdd2cba3853e9eb21ee05caa317995b201fb6bbe48", func := "loop.example/macroexpander/laws.FnSameReference", spec := "fnSameReference", inPlace := ["internal/bytealg.IndexByteString"], unfollowed := true, recurses := true, apart := false, narrowed := true }
def FnSameReferenceUptoSaid : Prop := fnSameReferenceUptoRow.holds Try.pinned (OpenSpec.upto fnSameReferenceSpec)

/-- 'laws.FnFindOther', WHERE WHAT IT READS IS OF BULK AT MOST 1048576: true; the input reads as it did. -/
def fnFindOtherUptoRow : OpenClaim := { program := "ytcbomlmlindjdaa", sum := "85890735b0665882aca7bccdd2cba3853e9eb21ee05caa317995b201fb6bbe48", func := "loop.example/macroexpander/laws.FnFindOther", spec := "fnFindOther", inPlace := ["internal/bytealg.IndexByteString"], unfollowed := true, recurses := true, apart := false, narrowed := true }
def FnFindOtherUptoSaid : Prop := fnFindOtherUptoRow.holds Try.pinned (OpenSpec.upto fnFindOtherSpec)

/-- 'laws.FnFindWithout', WHERE WHAT IT READS IS OF BULK AT MOST 1048576: true; the input reads as it did. -/
def fnFindWithoutUptoRow : OpenClaim := { program := "ytcbomlmlindjdaa", sum := "85890735b0665882aca7bccdd2cba3853e9eb21ee05caa317995b201fb6bbe48", func := "loop.example/macroexpander/laws.FnFindWithout", spec := "fnFindWithout", inPlace := ["internal/bytealg.IndexByteString"], unfollowed := true, recurses := true, apart := false, narrowed := true }
def FnFindWithoutUptoSaid : Prop := fnFindWithoutUptoRow.holds Try.pinned (OpenSpec.upto fnFindWithoutSpec)

/-- 'laws.FnHiddenBinds', WHERE WHAT IT READS IS OF BULK AT MOST 1048576: true; the input reads as it did. -/
def fnHiddenBindsUptoRow : OpenClaim := { program := "ytcbomlmlindjdaa", sum := "85890735b0665882aca7bccdd2cba3853e9eb21ee05caa317995b201fb6bbe48", func := "loop.example/macroexpander/laws.FnHiddenBinds", spec := "fnHiddenBinds", inPlace := ["internal/bytealg.IndexByteString"], unfollowed := true, recurses := true, apart := false, narrowed := true }
def FnHiddenBindsUptoSaid : Prop := fnHiddenBindsUptoRow.holds Try.pinned (OpenSpec.upto fnHiddenBindsSpec)

/-- 'laws.FnFittingBinds', WHERE WHAT IT READS IS OF BULK AT MOST 1048576: true; the input reads as it did. -/
def fnFittingBindsUptoRow : OpenClaim := { program := "ytcbomlmlindjdaa", sum := "85890735b0665882aca7bccdd2cba3853e9eb21ee05caa317995b201fb6bbe48", func := "loop.example/macroexpander/laws.FnFittingBinds", spec := "fnFittingBinds", inPlace := ["internal/bytealg.IndexByteString", "slices.overlaps[int]"], unfollowed := true, recurses := true, apart := false, narrowed := true }
def FnFittingBindsUptoSaid : Prop := fnFittingBindsUptoRow.holds Try.pinned (OpenSpec.upto fnFittingBindsSpec)

/-- 'laws.FnFindMore', WHERE WHAT IT READS IS OF BULK AT MOST 1048576: true; the input reads as it did. -/
def fnFindMoreUptoRow : OpenClaim := { program := "ytcbomlmlindjdaa", sum := "85890735b0665882aca7bccdd2cba3853e9eb21ee05caa317995b201fb6bbe48", func := "loop.example/macroexpander/laws.FnFindMore", spec := "fnFindMore", inPlace := ["internal/bytealg.IndexByteString", "slices.overlaps[int]"], unfollowed := true, recurses := true, apart := false, narrowed := true }
def FnFindMoreUptoSaid : Prop := fnFindMoreUptoRow.holds Try.pinned (OpenSpec.upto fnFindMoreSpec)

end Rows
end Go.Proofs.Ytcbomlmlindjdaa
