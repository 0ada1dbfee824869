/-
  NARROWER THAN 'FOR EVERY INPUT', by the rows' own cells (each row's printed sentence says how): FnExactStripForm: loops · FnExactNamesOf: loops · FnExactDropScope: loops · FnExactAddScope: loops · FnExactDressLike: loops · FnExactFlipScope: loops · FnExactScopesOf: loops · FnExactListForm: loops · FnExactHitsSame: loops · FnExactFittingBinds: loops.
  DERIVED. THE GIVEN ROWS OF THIS SEAT. 11 by the template 'for every input the law returns true; each argument reads behind the call as it read before'; 0 by the template 'total and deterministic' (their statements: YtnaefjilcabkoaaTotals.lean).
  GIVEN WITH THE SEED: the statements are not yours to turn. If you find one false, say at which input.
  Laid BY PROGRAM, IN A SANDBOX (cutbox-rows.mjs): the forced cells as the released guide's own fill.sh prints them over the translation 30ccbe81eccf5583… (all of the seat's roots in one cut). By AI agents, Wed Nov 11 2026. No macro, syntax, notation, axiom, sorry.
-/
import Derived.Test.YtnaefjilcabkoaaChecked
import GoSem.Claim
import GoSem.ClaimJoined
import GoSem.ClaimMapViews
import Derived.JoinedTies
import Derived.KernelRfl
namespace Go.Proofs.Ytnaefjilcabkoaa
/- THE CELL 'sum', in the pinned program and in every row, IS THE sha256 OF THE DUMP (.gsa) THAT YtnaefjilcabkoaaProg.lean LOADS. Nothing in Lean hashes anything: it is a label: what it is worth is what the hold of that sum in a sandbox is worth. -/
noncomputable def Try.pinned : Pinned := { name := "ytnaefjilcabkoaa", sum := "30ccbe81eccf55837e31d1f0dd3df15da27b0bcf4f21c00b2c109f4dcc414738", checked := Try.checked }
namespace Rows
def none {H : Type} : Left H := { results := [], args := [] }

/-- 'laws.FnExactStripForm': WHATEVER THE INPUT: true; the input reads as it did. -/
def fnExactStripFormSpec : ChangeSpec := { name := "fnExactStripForm", fn := fun _ => fun
  | [d] => { results := [.lit (.bool true)], args := [d] }
  | _ => none }
def fnExactStripFormRow : OpenClaim := { program := "ytnaefjilcabkoaa", sum := "30ccbe81eccf55837e31d1f0dd3df15da27b0bcf4f21c00b2c109f4dcc414738", func := "loop.example/macroexpander/laws.FnExactStripForm", spec := "fnExactStripForm", recurses := true, loops := true, apart := false }
def FnExactStripFormSaid : Prop := fnExactStripFormRow.holds Try.pinned (OpenSpec.ofChange fnExactStripFormSpec)

/-- ITS FALSE NEIGHBOUR: 'it returns false'. Refute it at one input. -/
def fnExactStripFormWrong : ChangeSpec := { name := "fnExactStripForm", fn := fun _ => fun
  | [d] => { results := [.lit (.bool false)], args := [d] }
  | _ => none }
def FnExactStripFormWrongFalsely : Prop := fnExactStripFormRow.holds Try.pinned (OpenSpec.ofChange fnExactStripFormWrong)

/-- 'laws.FnExactNamesOf': WHATEVER THE INPUT: true; the input reads as it did. -/
def fnExactNamesOfSpec : ChangeSpec := { name := "fnExactNamesOf", fn := fun _ => fun
  | [d] => { results := [.lit (.bool true)], args := [d] }
  | _ => none }
def fnExactNamesOfRow : OpenClaim := { program := "ytnaefjilcabkoaa", sum := "30ccbe81eccf55837e31d1f0dd3df15da27b0bcf4f21c00b2c109f4dcc414738", func := "loop.example/macroexpander/laws.FnExactNamesOf", spec := "fnExactNamesOf", unfollowed := true, recurses := true, loops := true, apart := false }
def FnExactNamesOfSaid : Prop := fnExactNamesOfRow.holds Try.pinned (OpenSpec.ofChange fnExactNamesOfSpec)

/-- ITS FALSE NEIGHBOUR: 'it returns false'. Refute it at one input. -/
def fnExactNamesOfWrong : ChangeSpec := { name := "fnExactNamesOf", fn := fun _ => fun
  | [d] => { results := [.lit (.bool false)], args := [d] }
  | _ => none }
def FnExactNamesOfWrongFalsely : Prop := fnExactNamesOfRow.holds Try.pinned (OpenSpec.ofChange fnExactNamesOfWrong)

/-- 'laws.FnExactDropScope': WHATEVER THE INPUT: true; the input reads as it did. -/
def fnExactDropScopeSpec : ChangeSpec := { name := "fnExactDropScope", fn := fun _ => fun
  | [d1, d2] => { results := [.lit (.bool true)], args := [d1, d2] }
  | _ => none }
def fnExactDropScopeRow : OpenClaim := { program := "ytnaefjilcabkoaa", sum := "30ccbe81eccf55837e31d1f0dd3df15da27b0bcf4f21c00b2c109f4dcc414738", func := "loop.example/macroexpander/laws.FnExactDropScope", spec := "fnExactDropScope", inPlace := ["internal/bytealg.IndexByteString"], unfollowed := true, recurses := true, loops := true, apart := false }
def FnExactDropScopeSaid : Prop := fnExactDropScopeRow.holds Try.pinned (OpenSpec.ofChange fnExactDropScopeSpec)

/-- ITS FALSE NEIGHBOUR: 'it returns false'. Refute it at one input. -/
def fnExactDropScopeWrong : ChangeSpec := { name := "fnExactDropScope", fn := fun _ => fun
  | [d1, d2] => { results := [.lit (.bool false)], args := [d1, d2] }
  | _ => none }
def FnExactDropScopeWrongFalsely : Prop := fnExactDropScopeRow.holds Try.pinned (OpenSpec.ofChange fnExactDropScopeWrong)

/-- 'laws.FnExactAddScope': WHATEVER THE INPUT: true; the input reads as it did. -/
def fnExactAddScopeSpec : ChangeSpec := { name := "fnExactAddScope", fn := fun _ => fun
  | [d1, d2] => { results := [.lit (.bool true)], args := [d1, d2] }
  | _ => none }
def fnExactAddScopeRow : OpenClaim := { program := "ytnaefjilcabkoaa", sum := "30ccbe81eccf55837e31d1f0dd3df15da27b0bcf4f21c00b2c109f4dcc414738", func := "loop.example/macroexpander/laws.FnExactAddScope", spec := "fnExactAddScope", inPlace := ["slices.overlaps[int]", "internal/bytealg.IndexByteString"], unfollowed := true, recurses := true, loops := true, apart := false }
def FnExactAddScopeSaid : Prop := fnExactAddScopeRow.holds Try.pinned (OpenSpec.ofChange fnExactAddScopeSpec)

/-- ITS FALSE NEIGHBOUR: 'it returns false'. Refute it at one input. -/
def fnExactAddScopeWrong : ChangeSpec := { name := "fnExactAddScope", fn := fun _ => fun
  | [d1, d2] => { results := [.lit (.bool false)], args := [d1, d2] }
  | _ => none }
def FnExactAddScopeWrongFalsely : Prop := fnExactAddScopeRow.holds Try.pinned (OpenSpec.ofChange fnExactAddScopeWrong)

/-- 'laws.FnExactDressLike': WHATEVER THE INPUT: true; the input reads as it did. -/
def fnExactDressLikeSpec : ChangeSpec := { name := "fnExactDressLike", fn := fun _ => fun
  | [d1, d2] => { results := [.lit (.bool true)], args := [d1, d2] }
  | _ => none }
def fnExactDressLikeRow : OpenClaim := { program := "ytnaefjilcabkoaa", sum := "30ccbe81eccf55837e31d1f0dd3df15da27b0bcf4f21c00b2c109f4dcc414738", func := "loop.example/macroexpander/laws.FnExactDressLike", spec := "fnExactDressLike", inPlace := ["internal/bytealg.IndexByteString", "slices.overlaps[int]"], unfollowed := true, recurses := true, loops := true, apart := false }
def FnExactDressLikeSaid : Prop := fnExactDressLikeRow.holds Try.pinned (OpenSpec.ofChange fnExactDressLikeSpec)

/-- ITS FALSE NEIGHBOUR: 'it returns false'. Refute it at one input. -/
def fnExactDressLikeWrong : ChangeSpec := { name := "fnExactDressLike", fn := fun _ => fun
  | [d1, d2] => { results := [.lit (.bool false)], args := [d1, d2] }
  | _ => none }
def FnExactDressLikeWrongFalsely : Prop := fnExactDressLikeRow.holds Try.pinned (OpenSpec.ofChange fnExactDressLikeWrong)

/-- 'laws.FnExactFlipScope': WHATEVER THE INPUT: true; the input reads as it did. -/
def fnExactFlipScopeSpec : ChangeSpec := { name := "fnExactFlipScope", fn := fun _ => fun
  | [d1, d2] => { results := [.lit (.bool true)], args := [d1, d2] }
  | _ => none }
def fnExactFlipScopeRow : OpenClaim := { program := "ytnaefjilcabkoaa", sum := "30ccbe81eccf55837e31d1f0dd3df15da27b0bcf4f21c00b2c109f4dcc414738", func := "loop.example/macroexpander/laws.FnExactFlipScope", spec := "fnExactFlipScope", inPlace := ["slices.overlaps[int]", "internal/bytealg.IndexByteString"], unfollowed := true, recurses := true, loops := true, apart := false }
def FnExactFlipScopeSaid : Prop := fnExactFlipScopeRow.holds Try.pinned (OpenSpec.ofChange fnExactFlipScopeSpec)

/-- ITS FALSE NEIGHBOUR: 'it returns false'. Refute it at one input. -/
def fnExactFlipScopeWrong : ChangeSpec := { name := "fnExactFlipScope", fn := fun _ => fun
  | [d1, d2] => { results := [.lit (.bool false)], args := [d1, d2] }
  | _ => none }
def FnExactFlipScopeWrongFalsely : Prop := fnExactFlipScopeRow.holds Try.pinned (OpenSpec.ofChange fnExactFlipScopeWrong)

/-- 'laws.FnExactScopesOf': WHATEVER THE INPUT: true; the input reads as it did. -/
def fnExactScopesOfSpec : ChangeSpec := { name := "fnExactScopesOf", fn := fun _ => fun
  | [d] => { results := [.lit (.bool true)], args := [d] }
  | _ => none }
def fnExactScopesOfRow : OpenClaim := { program := "ytnaefjilcabkoaa", sum := "30ccbe81eccf55837e31d1f0dd3df15da27b0bcf4f21c00b2c109f4dcc414738", func := "loop.example/macroexpander/laws.FnExactScopesOf", spec := "fnExactScopesOf", inPlace := ["internal/bytealg.IndexByteString"], unfollowed := true, recurses := true, loops := true, apart := false }
def FnExactScopesOfSaid : Prop := fnExactScopesOfRow.holds Try.pinned (OpenSpec.ofChange fnExactScopesOfSpec)

/-- ITS FALSE NEIGHBOUR: 'it returns false'. Refute it at one input. -/
def fnExactScopesOfWrong : ChangeSpec := { name := "fnExactScopesOf", fn := fun _ => fun
  | [d] => { results := [.lit (.bool false)], args := [d] }
  | _ => none }
def FnExactScopesOfWrongFalsely : Prop := fnExactScopesOfRow.holds Try.pinned (OpenSpec.ofChange fnExactScopesOfWrong)

/-- 'laws.FnExactBindsValid': WHATEVER THE INPUT: true; the input reads as it did. -/
def fnExactBindsValidSpec : ChangeSpec := { name := "fnExactBindsValid", fn := fun _ => fun
  | [d] => { results := [.lit (.bool true)], args := [d] }
  | _ => none }
def fnExactBindsValidRow : OpenClaim := { program := "ytnaefjilcabkoaa", sum := "30ccbe81eccf55837e31d1f0dd3df15da27b0bcf4f21c00b2c109f4dcc414738", func := "loop.example/macroexpander/laws.FnExactBindsValid", spec := "fnExactBindsValid", inPlace := ["internal/bytealg.IndexByteString"], unfollowed := true, recurses := true, apart := false }
def FnExactBindsValidSaid : Prop := fnExactBindsValidRow.holds Try.pinned (OpenSpec.ofChange fnExactBindsValidSpec)

/-- ITS FALSE NEIGHBOUR: 'it returns false'. Refute it at one input. -/
def fnExactBindsValidWrong : ChangeSpec := { name := "fnExactBindsValid", fn := fun _ => fun
  | [d] => { results := [.lit (.bool false)], args := [d] }
  | _ => none }
def FnExactBindsValidWrongFalsely : Prop := fnExactBindsValidRow.holds Try.pinned (OpenSpec.ofChange fnExactBindsValidWrong)

/-- 'laws.FnExactListForm': WHATEVER THE INPUT: true; the input reads as it did. -/
def fnExactListFormSpec : ChangeSpec := { name := "fnExactListForm", fn := fun _ => fun
  | [d] => { results := [.lit (.bool true)], args := [d] }
  | _ => none }
def fnExactListFormRow : OpenClaim := { program := "ytnaefjilcabkoaa", sum := "30ccbe81eccf55837e31d1f0dd3df15da27b0bcf4f21c00b2c109f4dcc414738", func := "loop.example/macroexpander/laws.FnExactListForm", spec := "fnExactListForm", inPlace := ["internal/bytealg.IndexByteString"], recurses := true, loops := true, apart := false }
def FnExactListFormSaid : Prop := fnExactListFormRow.holds Try.pinned (OpenSpec.ofChange fnExactListFormSpec)

/-- ITS FALSE NEIGHBOUR: 'it returns false'. Refute it at one input. -/
def fnExactListFormWrong : ChangeSpec := { name := "fnExactListForm", fn := fun _ => fun
  | [d] => { results := [.lit (.bool false)], args := [d] }
  | _ => none }
def FnExactListFormWrongFalsely : Prop := fnExactListFormRow.holds Try.pinned (OpenSpec.ofChange fnExactListFormWrong)

/-- 'laws.FnExactHitsSame': WHATEVER THE INPUT: true; the input reads as it did. -/
def fnExactHitsSameSpec : ChangeSpec := { name := "fnExactHitsSame", fn := fun _ => fun
  | [d1, d2] => { results := [.lit (.bool true)], args := [d1, d2] }
  | _ => none }
def fnExactHitsSameRow : OpenClaim := { program := "ytnaefjilcabkoaa", sum := "30ccbe81eccf55837e31d1f0dd3df15da27b0bcf4f21c00b2c109f4dcc414738", func := "loop.example/macroexpander/laws.FnExactHitsSame", spec := "fnExactHitsSame", unfollowed := true, recurses := true, loops := true, apart := false }
def FnExactHitsSameSaid : Prop := fnExactHitsSameRow.holds Try.pinned (OpenSpec.ofChange fnExactHitsSameSpec)

/-- ITS FALSE NEIGHBOUR: 'it returns false'. Refute it at one input. -/
def fnExactHitsSameWrong : ChangeSpec := { name := "fnExactHitsSame", fn := fun _ => fun
  | [d1, d2] => { results := [.lit (.bool false)], args := [d1, d2] }
  | _ => none }
def FnExactHitsSameWrongFalsely : Prop := fnExactHitsSameRow.holds Try.pinned (OpenSpec.ofChange fnExactHitsSameWrong)

/-- 'laws.FnExactFittingBinds': WHATEVER THE INPUT: true; the input reads as it did. -/
def fnExactFittingBindsSpec : ChangeSpec := { name := "fnExactFittingBinds", fn := fun _ => fun
  | [d1, d2] => { results := [.lit (.bool true)], args := [d1, d2] }
  | _ => none }
def fnExactFittingBindsRow : OpenClaim := { program := "ytnaefjilcabkoaa", sum := "30ccbe81eccf55837e31d1f0dd3df15da27b0bcf4f21c00b2c109f4dcc414738", func := "loop.example/macroexpander/laws.FnExactFittingBinds", spec := "fnExactFittingBinds", inPlace := ["internal/bytealg.IndexByteString"], unfollowed := true, recurses := true, loops := true, apart := false }
def FnExactFittingBindsSaid : Prop := fnExactFittingBindsRow.holds Try.pinned (OpenSpec.ofChange fnExactFittingBindsSpec)

/-- ITS FALSE NEIGHBOUR: 'it returns false'. Refute it at one input. -/
def fnExactFittingBindsWrong : ChangeSpec := { name := "fnExactFittingBinds", fn := fun _ => fun
  | [d1, d2] => { results := [.lit (.bool false)], args := [d1, d2] }
  | _ => none }
def FnExactFittingBindsWrongFalsely : Prop := fnExactFittingBindsRow.holds Try.pinned (OpenSpec.ofChange fnExactFittingBindsWrong)

/- THE SECOND FORM. 'bulk': how many values and letters a reading holds, each counted each time it is reached (what is shared counts as often as it is met; a slice's spare places count too). A statement '..UptoSaid' is the law's where the arguments, and the package variables that the reading takes, are together of bulk at most 1048576: NARROWER than '..Said'. Prove '..Said' where nothing that the law and all that it calls make is longer than what came in: it says more and counts as full. Else prove '..UptoSaid'. A law counts once. -/
mutual
def uptoBulk {H : Type} : DataW H → Nat
  | .lit (.string bytes) => bytes.length + 1
  | .lit _ => 1
  | .nil => 1
  | .ptr d => uptoBulk d + 1
  | .slice elems spare => uptoBulkAll elems + uptoBulkAll spare + 1
  | .agg parts => uptoBulkAll parts + 1
  | .iface _ d => uptoBulk d + 1
  | .map entries => uptoBulkEntries entries + 1
  | .held _ => 1
def uptoBulkAll {H : Type} : List (DataW H) → Nat
  | [] => 0
  | d :: r => uptoBulk d + uptoBulkAll r
def uptoBulkEntries {H : Type} : List (Lit × DataW H) → Nat
  | [] => 0
  | x :: r => uptoBulkEntry x + uptoBulkEntries r
def uptoBulkEntry {H : Type} : Lit × DataW H → Nat
  | (.string bytes, d) => bytes.length + uptoBulk d + 1
  | (_, d) => uptoBulk d + 1
 end
def uptoSmall : (H : Type) → List (DataW H) → Bool := fun _ ds => decide (uptoBulkAll ds ≤ 1048576)
def OpenSpec.upto (s : _root_.Go.ChangeSpec) : _root_.Go.OpenSpec := { _root_.Go.OpenSpec.ofChange s with cond := some uptoSmall }

/-- 'laws.FnExactStripForm', WHERE WHAT IT READS IS OF BULK AT MOST 1048576: true; the input reads as it did. -/
def fnExactStripFormUptoRow : OpenClaim := { program := "ytnaefjilcabkoaa", sum := "30ccbe81eccf55837e31d1f0dd3df15da27b0bcf4f21c00b2c109f4dcc414738", func := "loop.example/macroexpander/laws.FnExactStripForm", spec := "fnExactStripForm", recurses := true, loops := true, apart := false, narrowed := true }
def FnExactStripFormUptoSaid : Prop := fnExactStripFormUptoRow.holds Try.pinned (OpenSpec.upto fnExactStripFormSpec)

/-- 'laws.FnExactNamesOf', WHERE WHAT IT READS IS OF BULK AT MOST 1048576: true; the input reads as it did. -/
def fnExactNamesOfUptoRow : OpenClaim := { program := "ytnaefjilcabkoaa", sum := "30ccbe81eccf55837e31d1f0dd3df15da27b0bcf4f21c00b2c109f4dcc414738", func := "loop.example/macroexpander/laws.FnExactNamesOf", spec := "fnExactNamesOf", unfollowed := true, recurses := true, loops := true, apart := false, narrowed := true }
def FnExactNamesOfUptoSaid : Prop := fnExactNamesOfUptoRow.holds Try.pinned (OpenSpec.upto fnExactNamesOfSpec)

/-- 'laws.FnExactDropScope', WHERE WHAT IT READS IS OF BULK AT MOST 1048576: true; the input reads as it did. -/
def fnExactDropScopeUptoRow : OpenClaim := { program := "ytnaefjilcabkoaa", sum := "30ccbe81eccf55837e31d1f0dd3df15da27b0bcf4f21c00b2c109f4dcc414738", func := "loop.example/macroexpander/laws.FnExactDropScope", spec := "fnExactDropScope", inPlace := ["internal/bytealg.IndexByteString"], unfollowed := true, recurses := true, loops := true, apart := false, narrowed := true }
def FnExactDropScopeUptoSaid : Prop := fnExactDropScopeUptoRow.holds Try.pinned (OpenSpec.upto fnExactDropScopeSpec)

/-- 'laws.FnExactAddScope', WHERE WHAT IT READS IS OF BULK AT MOST 1048576: true; the input reads as it did. -/
def fnExactAddScopeUptoRow : OpenClaim := { program := "ytnaefjilcabkoaa", sum := "30ccbe81eccf55837e31d1f0dd3df15da27b0bcf4f21c00b2c109f4dcc414738", func := "loop.example/macroexpander/laws.FnExactAddScope", spec := "fnExactAddScope", inPlace := ["slices.overlaps[int]", "internal/bytealg.IndexByteString"], unfollowed := true, recurses := true, loops := true, apart := false, narrowed := true }
def FnExactAddScopeUptoSaid : Prop := fnExactAddScopeUptoRow.holds Try.pinned (OpenSpec.upto fnExactAddScopeSpec)

/-- 'laws.FnExactDressLike', WHERE WHAT IT READS IS OF BULK AT MOST 1048576: true; the input reads as it did. -/
def fnExactDressLikeUptoRow : OpenClaim := { program := "ytnaefjilcabkoaa", sum := "30ccbe81eccf55837e31d1f0dd3df15da27b0bcf4f21c00b2c109f4dcc414738", func := "loop.example/macroexpander/laws.FnExactDressLike", spec := "fnExactDressLike", inPlace := ["internal/bytealg.IndexByteString", "slices.overlaps[int]"], unfollowed := true, recurses := true, loops := true, apart := false, narrowed := true }
def FnExactDressLikeUptoSaid : Prop := fnExactDressLikeUptoRow.holds Try.pinned (OpenSpec.upto fnExactDressLikeSpec)

/-- 'laws.FnExactFlipScope', WHERE WHAT IT READS IS OF BULK AT MOST 1048576: true; the input reads as it did. -/
def fnExactFlipScopeUptoRow : OpenClaim := { program := "ytnaefjilcabkoaa", sum := "30ccbe81eccf55837e31d1f0dd3df15da27b0bcf4f21c00b2c109f4dcc414738", func := "loop.example/macroexpander/laws.FnExactFlipScope", spec := "fnExactFlipScope", inPlace := ["slices.overlaps[int]", "internal/bytealg.IndexByteString"], unfollowed := true, recurses := true, loops := true, apart := false, narrowed := true }
def FnExactFlipScopeUptoSaid : Prop := fnExactFlipScopeUptoRow.holds Try.pinned (OpenSpec.upto fnExactFlipScopeSpec)

/-- 'laws.FnExactScopesOf', WHERE WHAT IT READS IS OF BULK AT MOST 1048576: true; the input reads as it did. -/
def fnExactScopesOfUptoRow : OpenClaim := { program := "ytnaefjilcabkoaa", sum := "30ccbe81eccf55837e31d1f0dd3df15da27b0bcf4f21c00b2c109f4dcc414738", func := "loop.example/macroexpander/laws.FnExactScopesOf", spec := "fnExactScopesOf", inPlace := ["internal/bytealg.IndexByteString"], unfollowed := true, recurses := true, loops := true, apart := false, narrowed := true }
def FnExactScopesOfUptoSaid : Prop := fnExactScopesOfUptoRow.holds Try.pinned (OpenSpec.upto fnExactScopesOfSpec)

/-- 'laws.FnExactBindsValid', WHERE WHAT IT READS IS OF BULK AT MOST 1048576: true; the input reads as it did. -/
def fnExactBindsValidUptoRow : OpenClaim := { program := "ytnaefjilcabkoaa", sum := "30ccbe81eccf55837e31d1f0dd3df15da27b0bcf4f21c00b2c109f4dcc414738", func := "loop.example/macroexpander/laws.FnExactBindsValid", spec := "fnExactBindsValid", inPlace := ["internal/bytealg.IndexByteString"], unfollowed := true, recurses := true, apart := false, narrowed := true }
def FnExactBindsValidUptoSaid : Prop := fnExactBindsValidUptoRow.holds Try.pinned (OpenSpec.upto fnExactBindsValidSpec)

/-- 'laws.FnExactListForm', WHERE WHAT IT READS IS OF BULK AT MOST 1048576: true; the input reads as it did. -/
def fnExactListFormUptoRow : OpenClaim := { program := "ytnaefjilcabkoaa", sum := "30ccbe81eccf55837e31d1f0dd3df15da27b0bcf4f21c00b2c109f4dcc414738", func := "loop.example/macroexpander/laws.FnExactListForm", spec := "fnExactListForm", inPlace := ["internal/bytealg.IndexByteString"], recurses := true, loops := true, apart := false, narrowed := true }
def FnExactListFormUptoSaid : Prop := fnExactListFormUptoRow.holds Try.pinned (OpenSpec.upto fnExactListFormSpec)

/-- 'laws.FnExactHitsSame', WHERE WHAT IT READS IS OF BULK AT MOST 1048576: true; the input reads as it did. -/
def fnExactHitsSameUptoRow : OpenClaim := { program := "ytnaefjilcabkoaa", sum := "30ccbe81eccf55837e31d1f0dd3df15da27b0bcf4f21c00b2c109f4dcc414738", func := "loop.example/macroexpander/laws.FnExactHitsSame", spec := "fnExactHitsSame", unfollowed := true, recurses := true, loops := true, apart := false, narrowed := true }
def FnExactHitsSameUptoSaid : Prop := fnExactHitsSameUptoRow.holds Try.pinned (OpenSpec.upto fnExactHitsSameSpec)

/-- 'laws.FnExactFittingBinds', WHERE WHAT IT READS IS OF BULK AT MOST 1048576: true; the input reads as it did. -/
def fnExactFittingBindsUptoRow : OpenClaim := { program := "ytnaefjilcabkoaa", sum := "30ccbe81eccf55837e31d1f0dd3df15da27b0bcf4f21c00b2c109f4dcc414738", func := "loop.example/macroexpander/laws.FnExactFittingBinds", spec := "fnExactFittingBinds", inPlace := ["internal/bytealg.IndexByteString"], unfollowed := true, recurses := true, loops := true, apart := false, narrowed := true }
def FnExactFittingBindsUptoSaid : Prop := fnExactFittingBindsUptoRow.holds Try.pinned (OpenSpec.upto fnExactFittingBindsSpec)

end Rows
end Go.Proofs.Ytnaefjilcabkoaa
