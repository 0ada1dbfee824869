/-
  No cell of these rows narrows 'for every input' (looked for: loops, veiled, ifaces, maps, wideKeys, modest, calm, conditions, laid).
  DERIVED. THE GIVEN ROWS OF THIS SEAT. 6 by the template 'for every input the law returns true; each argument reads behind the call as it read before'; 0 by the template 'total and deterministic' (their statements: YtlhbbeofcdhlcaaTotals.lean).
  GIVEN WITH THE SEED: the statements are not yours to turn. If you find one false, say at which input.
  Laid BY PROGRAM, IN A SANDBOX (cutbox-rows.mjs): the forced cells as the released guide's own fill.sh prints them over the translation 4d7754f04d0607bd… (all of the seat's roots in one cut). By AI agents, Wed Nov 11 2026. No macro, syntax, notation, axiom, sorry.
-/
import Derived.Test.YtlhbbeofcdhlcaaChecked
import GoSem.Claim
import GoSem.ClaimJoined
import GoSem.ClaimMapViews
import Derived.JoinedTies
import Derived.KernelRfl
namespace Go.Proofs.Ytlhbbeofcdhlcaa
/- THE CELL 'sum', in the pinned program and in every row, IS THE sha256 OF THE DUMP (.gsa) THAT YtlhbbeofcdhlcaaProg.lean LOADS. Nothing in Lean hashes anything: it is a label: what it is worth is what the hold of that sum in a sandbox is worth. -/
noncomputable def Try.pinned : Pinned := { name := "ytlhbbeofcdhlcaa", sum := "4d7754f04d0607bdb38d7bd93440820640dc4630b23d473cbd03f95774afb932", checked := Try.checked }
namespace Rows
def none {H : Type} : Left H := { results := [], args := [] }

/-- 'laws.FnExactConstants': WHATEVER THE INPUT: true; the input reads as it did. -/
def fnExactConstantsSpec : ChangeSpec := { name := "fnExactConstants", fn := fun _ => fun
  | [] => { results := [.lit (.bool true)], args := [] }
  | _ => none }
def fnExactConstantsRow : OpenClaim := { program := "ytlhbbeofcdhlcaa", sum := "4d7754f04d0607bdb38d7bd93440820640dc4630b23d473cbd03f95774afb932", func := "loop.example/macroexpander/laws.FnExactConstants", spec := "fnExactConstants", apart := false }
def FnExactConstantsSaid : Prop := fnExactConstantsRow.holds Try.pinned (OpenSpec.ofChange fnExactConstantsSpec)

/-- ITS FALSE NEIGHBOUR: 'it returns false'. Refute it at one input. -/
def fnExactConstantsWrong : ChangeSpec := { name := "fnExactConstants", fn := fun _ => fun
  | [] => { results := [.lit (.bool false)], args := [] }
  | _ => none }
def FnExactConstantsWrongFalsely : Prop := fnExactConstantsRow.holds Try.pinned (OpenSpec.ofChange fnExactConstantsWrong)

/-- 'laws.FnExactNameValid': WHATEVER THE INPUT: true; the input reads as it did. -/
def fnExactNameValidSpec : ChangeSpec := { name := "fnExactNameValid", fn := fun _ => fun
  | [d] => { results := [.lit (.bool true)], args := [d] }
  | _ => none }
def fnExactNameValidRow : OpenClaim := { program := "ytlhbbeofcdhlcaa", sum := "4d7754f04d0607bdb38d7bd93440820640dc4630b23d473cbd03f95774afb932", func := "loop.example/macroexpander/laws.FnExactNameValid", spec := "fnExactNameValid", inPlace := ["internal/bytealg.IndexByteString"], apart := false }
def FnExactNameValidSaid : Prop := fnExactNameValidRow.holds Try.pinned (OpenSpec.ofChange fnExactNameValidSpec)

/-- ITS FALSE NEIGHBOUR: 'it returns false'. Refute it at one input. -/
def fnExactNameValidWrong : ChangeSpec := { name := "fnExactNameValid", fn := fun _ => fun
  | [d] => { results := [.lit (.bool false)], args := [d] }
  | _ => none }
def FnExactNameValidWrongFalsely : Prop := fnExactNameValidRow.holds Try.pinned (OpenSpec.ofChange fnExactNameValidWrong)

/-- 'laws.FnExactScopesWithin': WHATEVER THE INPUT: true; the input reads as it did. -/
def fnExactScopesWithinSpec : ChangeSpec := { name := "fnExactScopesWithin", fn := fun _ => fun
  | [d1, d2] => { results := [.lit (.bool true)], args := [d1, d2] }
  | _ => none }
def fnExactScopesWithinRow : OpenClaim := { program := "ytlhbbeofcdhlcaa", sum := "4d7754f04d0607bdb38d7bd93440820640dc4630b23d473cbd03f95774afb932", func := "loop.example/macroexpander/laws.FnExactScopesWithin", spec := "fnExactScopesWithin", unfollowed := true, recurses := true, apart := false }
def FnExactScopesWithinSaid : Prop := fnExactScopesWithinRow.holds Try.pinned (OpenSpec.ofChange fnExactScopesWithinSpec)

/-- ITS FALSE NEIGHBOUR: 'it returns false'. Refute it at one input. -/
def fnExactScopesWithinWrong : ChangeSpec := { name := "fnExactScopesWithin", fn := fun _ => fun
  | [d1, d2] => { results := [.lit (.bool false)], args := [d1, d2] }
  | _ => none }
def FnExactScopesWithinWrongFalsely : Prop := fnExactScopesWithinRow.holds Try.pinned (OpenSpec.ofChange fnExactScopesWithinWrong)

/-- 'laws.FnScopesWithin': WHATEVER THE INPUT: true; the input reads as it did. -/
def fnScopesWithinSpec : ChangeSpec := { name := "fnScopesWithin", fn := fun _ => fun
  | [d1, d2] => { results := [.lit (.bool true)], args := [d1, d2] }
  | _ => none }
def fnScopesWithinRow : OpenClaim := { program := "ytlhbbeofcdhlcaa", sum := "4d7754f04d0607bdb38d7bd93440820640dc4630b23d473cbd03f95774afb932", func := "loop.example/macroexpander/laws.FnScopesWithin", spec := "fnScopesWithin", unfollowed := true, recurses := true, apart := false }
def FnScopesWithinSaid : Prop := fnScopesWithinRow.holds Try.pinned (OpenSpec.ofChange fnScopesWithinSpec)

/-- ITS FALSE NEIGHBOUR: 'it returns false'. Refute it at one input. -/
def fnScopesWithinWrong : ChangeSpec := { name := "fnScopesWithin", fn := fun _ => fun
  | [d1, d2] => { results := [.lit (.bool false)], args := [d1, d2] }
  | _ => none }
def FnScopesWithinWrongFalsely : Prop := fnScopesWithinRow.holds Try.pinned (OpenSpec.ofChange fnScopesWithinWrong)

/-- 'laws.FnWithinSame': WHATEVER THE INPUT: true; the input reads as it did. -/
def fnWithinSameSpec : ChangeSpec := { name := "fnWithinSame", fn := fun _ => fun
  | [d] => { results := [.lit (.bool true)], args := [d] }
  | _ => none }
def fnWithinSameRow : OpenClaim := { program := "ytlhbbeofcdhlcaa", sum := "4d7754f04d0607bdb38d7bd93440820640dc4630b23d473cbd03f95774afb932", func := "loop.example/macroexpander/laws.FnWithinSame", spec := "fnWithinSame", unfollowed := true, recurses := true, apart := false }
def FnWithinSameSaid : Prop := fnWithinSameRow.holds Try.pinned (OpenSpec.ofChange fnWithinSameSpec)

/-- ITS FALSE NEIGHBOUR: 'it returns false'. Refute it at one input. -/
def fnWithinSameWrong : ChangeSpec := { name := "fnWithinSame", fn := fun _ => fun
  | [d] => { results := [.lit (.bool false)], args := [d] }
  | _ => none }
def FnWithinSameWrongFalsely : Prop := fnWithinSameRow.holds Try.pinned (OpenSpec.ofChange fnWithinSameWrong)

/-- 'laws.FnFormSize': WHATEVER THE INPUT: true; the input reads as it did. -/
def fnFormSizeSpec : ChangeSpec := { name := "fnFormSize", fn := fun _ => fun
  | [d] => { results := [.lit (.bool true)], args := [d] }
  | _ => none }
def fnFormSizeRow : OpenClaim := { program := "ytlhbbeofcdhlcaa", sum := "4d7754f04d0607bdb38d7bd93440820640dc4630b23d473cbd03f95774afb932", func := "loop.example/macroexpander/laws.FnFormSize", spec := "fnFormSize", recurses := true, apart := false }
def FnFormSizeSaid : Prop := fnFormSizeRow.holds Try.pinned (OpenSpec.ofChange fnFormSizeSpec)

/-- ITS FALSE NEIGHBOUR: 'it returns false'. Refute it at one input. -/
def fnFormSizeWrong : ChangeSpec := { name := "fnFormSize", fn := fun _ => fun
  | [d] => { results := [.lit (.bool false)], args := [d] }
  | _ => none }
def FnFormSizeWrongFalsely : Prop := fnFormSizeRow.holds Try.pinned (OpenSpec.ofChange fnFormSizeWrong)

/- THE SECOND FORM. 'bulk': how many values and letters a reading holds, each counted each time it is reached (what is shared counts as often as it is met; a slice's spare places count too). A statement '..UptoSaid' is the law's where the arguments, and the package variables that the reading takes, are together of bulk at most 1048576: NARROWER than '..Said'. Prove '..Said' where nothing that the law and all that it calls make is longer than what came in: it says more and counts as full. Else prove '..UptoSaid'. A law counts once. -/
mutual
def uptoBulk {H : Type} : DataW H → Nat
  | .lit (.string bytes) => bytes.length + 1
  | .lit _ => 1
  | .nil => 1
  | .ptr d => uptoBulk d + 1
  | .slice elems spare => uptoBulkAll elems + uptoBulkAll spare + 1
  | .agg parts => uptoBulkAll parts + 1
  | .iface _ d => uptoBulk d + 1
  | .map entries => uptoBulkEntries entries + 1
  | .held _ => 1
def uptoBulkAll {H : Type} : List (DataW H) → Nat
  | [] => 0
  | d :: r => uptoBulk d + uptoBulkAll r
def uptoBulkEntries {H : Type} : List (Lit × DataW H) → Nat
  | [] => 0
  | x :: r => uptoBulkEntry x + uptoBulkEntries r
def uptoBulkEntry {H : Type} : Lit × DataW H → Nat
  | (.string bytes, d) => bytes.length + uptoBulk d + 1
  | (_, d) => uptoBulk d + 1
 end
def uptoSmall : (H : Type) → List (DataW H) → Bool := fun _ ds => decide (uptoBulkAll ds ≤ 1048576)
def OpenSpec.upto (s : _root_.Go.ChangeSpec) : _root_.Go.OpenSpec := { _root_.Go.OpenSpec.ofChange s with cond := some uptoSmall }

/-- 'laws.FnExactConstants', WHERE WHAT IT READS IS OF BULK AT MOST 1048576: true; the input reads as it did. -/
def fnExactConstantsUptoRow : OpenClaim := { program := "ytlhbbeofcdhlcaa", sum := "4d7754f04d0607bdb38d7bd93440820640dc4630b23d473cbd03f95774afb932", func := "loop.example/macroexpander/laws.FnExactConstants", spec := "fnExactConstants", apart := false, narrowed := true }
def FnExactConstantsUptoSaid : Prop := fnExactConstantsUptoRow.holds Try.pinned (OpenSpec.upto fnExactConstantsSpec)

/-- 'laws.FnExactNameValid', WHERE WHAT IT READS IS OF BULK AT MOST 1048576: true; the input reads as it did. -/
def fnExactNameValidUptoRow : OpenClaim := { program := "ytlhbbeofcdhlcaa", sum := "4d7754f04d0607bdb38d7bd93440820640dc4630b23d473cbd03f95774afb932", func := "loop.example/macroexpander/laws.FnExactNameValid", spec := "fnExactNameValid", inPlace := ["internal/bytealg.IndexByteString"], apart := false, narrowed := true }
def FnExactNameValidUptoSaid : Prop := fnExactNameValidUptoRow.holds Try.pinned (OpenSpec.upto fnExactNameValidSpec)

/-- 'laws.FnExactScopesWithin', WHERE WHAT IT READS IS OF BULK AT MOST 1048576: true; the input reads as it did. -/
def fnExactScopesWithinUptoRow : OpenClaim := { program := "ytlhbbeofcdhlcaa", sum := "4d7754f04d0607bdb38d7bd93440820640dc4630b23d473cbd03f95774afb932", func := "loop.example/macroexpander/laws.FnExactScopesWithin", spec := "fnExactScopesWithin", unfollowed := true, recurses := true, apart := false, narrowed := true }
def FnExactScopesWithinUptoSaid : Prop := fnExactScopesWithinUptoRow.holds Try.pinned (OpenSpec.upto fnExactScopesWithinSpec)

/-- 'laws.FnScopesWithin', WHERE WHAT IT READS IS OF BULK AT MOST 1048576: true; the input reads as it did. -/
def fnScopesWithinUptoRow : OpenClaim := { program := "ytlhbbeofcdhlcaa", sum := "4d7754f04d0607bdb38d7bd93440820640dc4630b23d473cbd03f95774afb932", func := "loop.example/macroexpander/laws.FnScopesWithin", spec := "fnScopesWithin", unfollowed := true, recurses := true, apart := false, narrowed := true }
def FnScopesWithinUptoSaid : Prop := fnScopesWithinUptoRow.holds Try.pinned (OpenSpec.upto fnScopesWithinSpec)

/-- 'laws.FnWithinSame', WHERE WHAT IT READS IS OF BULK AT MOST 1048576: true; the input reads as it did. -/
def fnWithinSameUptoRow : OpenClaim := { program := "ytlhbbeofcdhlcaa", sum := "4d7754f04d0607bdb38d7bd93440820640dc4630b23d473cbd03f95774afb932", func := "loop.example/macroexpander/laws.FnWithinSame", spec := "fnWithinSame", unfollowed := true, recurses := true, apart := false, narrowed := true }
def FnWithinSameUptoSaid : Prop := fnWithinSameUptoRow.holds Try.pinned (OpenSpec.upto fnWithinSameSpec)

/-- 'laws.FnFormSize', WHERE WHAT IT READS IS OF BULK AT MOST 1048576: true; the input reads as it did. -/
def fnFormSizeUptoRow : OpenClaim := { program := "ytlhbbeofcdhlcaa", sum := "4d7754f04d0607bdb38d7bd93440820640dc4630b23d473cbd03f95774afb932", func := "loop.example/macroexpander/laws.FnFormSize", spec := "fnFormSize", recurses := true, apart := false, narrowed := true }
def FnFormSizeUptoSaid : Prop := fnFormSizeUptoRow.holds Try.pinned (OpenSpec.upto fnFormSizeSpec)

end Rows
end Go.Proofs.Ytlhbbeofcdhlcaa
