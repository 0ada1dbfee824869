/-
  NARROWER THAN 'FOR EVERY INPUT', by the rows' own cells (each row's printed sentence says how): FnExactFittingBinds: loops · FnExactHiddenBinds: loops · FnExactAddBind: loops · FnExactHitsSame: loops · FnExactHitsValid: loops · FnExactPatternValid: loops · FnExactVarDepths: loops.
  DERIVED. THE GIVEN ROWS OF THIS SEAT. 7 by the template 'for every input the law returns true; each argument reads behind the call as it read before'; 0 by the template 'total and deterministic' (their statements: YtlklclebjeeaaaaTotals.lean).
  GIVEN WITH THE SEED: the statements are not yours to turn. If you find one false, say at which input.
  Laid BY PROGRAM, IN A SANDBOX (cutbox-rows.mjs): the forced cells as the released guide's own fill.sh prints them over the translation 794afa7c78cd7ad0… (all of the seat's roots in one cut). By AI agents, Wed Nov 11 2026. No macro, syntax, notation, axiom, sorry.
-/
import Derived.Test.YtlklclebjeeaaaaChecked
import GoSem.Claim
import GoSem.ClaimJoined
import GoSem.ClaimMapViews
import Derived.JoinedTies
import Derived.KernelRfl
namespace Go.Proofs.Ytlklclebjeeaaaa
/- THE CELL 'sum', in the pinned program and in every row, IS THE sha256 OF THE DUMP (.gsa) THAT YtlklclebjeeaaaaProg.lean LOADS. Nothing in Lean hashes anything: it is a label: what it is worth is what the hold of that sum in a sandbox is worth. -/
noncomputable def Try.pinned : Pinned := { name := "ytlklclebjeeaaaa", sum := "794afa7c78cd7ad0605186243484672ba989d3e2dc96661c8d50e8135d46938c", checked := Try.checked }
namespace Rows
def none {H : Type} : Left H := { results := [], args := [] }

/-- 'laws.FnExactFittingBinds': WHATEVER THE INPUT: true; the input reads as it did. -/
def fnExactFittingBindsSpec : ChangeSpec := { name := "fnExactFittingBinds", fn := fun _ => fun
  | [d1, d2] => { results := [.lit (.bool true)], args := [d1, d2] }
  | _ => none }
def fnExactFittingBindsRow : OpenClaim := { program := "ytlklclebjeeaaaa", sum := "794afa7c78cd7ad0605186243484672ba989d3e2dc96661c8d50e8135d46938c", func := "loop.example/macroexpander/laws.FnExactFittingBinds", spec := "fnExactFittingBinds", inPlace := ["internal/bytealg.IndexByteString"], unfollowed := true, recurses := true, loops := true, apart := false }
def FnExactFittingBindsSaid : Prop := fnExactFittingBindsRow.holds Try.pinned (OpenSpec.ofChange fnExactFittingBindsSpec)

/-- ITS FALSE NEIGHBOUR: 'it returns false'. Refute it at one input. -/
def fnExactFittingBindsWrong : ChangeSpec := { name := "fnExactFittingBinds", fn := fun _ => fun
  | [d1, d2] => { results := [.lit (.bool false)], args := [d1, d2] }
  | _ => none }
def FnExactFittingBindsWrongFalsely : Prop := fnExactFittingBindsRow.holds Try.pinned (OpenSpec.ofChange fnExactFittingBindsWrong)

/-- 'laws.FnExactHiddenBinds': WHATEVER THE INPUT: true; the input reads as it did. -/
def fnExactHiddenBindsSpec : ChangeSpec := { name := "fnExactHiddenBinds", fn := fun _ => fun
  | [d1, d2] => { results := [.lit (.bool true)], args := [d1, d2] }
  | _ => none }
def fnExactHiddenBindsRow : OpenClaim := { program := "ytlklclebjeeaaaa", sum := "794afa7c78cd7ad0605186243484672ba989d3e2dc96661c8d50e8135d46938c", func := "loop.example/macroexpander/laws.FnExactHiddenBinds", spec := "fnExactHiddenBinds", inPlace := ["internal/bytealg.IndexByteString"], unfollowed := true, recurses := true, loops := true, apart := false }
def FnExactHiddenBindsSaid : Prop := fnExactHiddenBindsRow.holds Try.pinned (OpenSpec.ofChange fnExactHiddenBindsSpec)

/-- ITS FALSE NEIGHBOUR: 'it returns false'. Refute it at one input. -/
def fnExactHiddenBindsWrong : ChangeSpec := { name := "fnExactHiddenBinds", fn := fun _ => fun
  | [d1, d2] => { results := [.lit (.bool false)], args := [d1, d2] }
  | _ => none }
def FnExactHiddenBindsWrongFalsely : Prop := fnExactHiddenBindsRow.holds Try.pinned (OpenSpec.ofChange fnExactHiddenBindsWrong)

/-- 'laws.FnExactAddBind': WHATEVER THE INPUT: true; the input reads as it did. -/
def fnExactAddBindSpec : ChangeSpec := { name := "fnExactAddBind", fn := fun _ => fun
  | [d1, d2, d3] => { results := [.lit (.bool true)], args := [d1, d2, d3] }
  | _ => none }
def fnExactAddBindRow : OpenClaim := { program := "ytlklclebjeeaaaa", sum := "794afa7c78cd7ad0605186243484672ba989d3e2dc96661c8d50e8135d46938c", func := "loop.example/macroexpander/laws.FnExactAddBind", spec := "fnExactAddBind", inPlace := ["internal/bytealg.IndexByteString"], unfollowed := true, recurses := true, loops := true, apart := false }
def FnExactAddBindSaid : Prop := fnExactAddBindRow.holds Try.pinned (OpenSpec.ofChange fnExactAddBindSpec)

/-- ITS FALSE NEIGHBOUR: 'it returns false'. Refute it at one input. -/
def fnExactAddBindWrong : ChangeSpec := { name := "fnExactAddBind", fn := fun _ => fun
  | [d1, d2, d3] => { results := [.lit (.bool false)], args := [d1, d2, d3] }
  | _ => none }
def FnExactAddBindWrongFalsely : Prop := fnExactAddBindRow.holds Try.pinned (OpenSpec.ofChange fnExactAddBindWrong)

/-- 'laws.FnExactHitsSame': WHATEVER THE INPUT: true; the input reads as it did. -/
def fnExactHitsSameSpec : ChangeSpec := { name := "fnExactHitsSame", fn := fun _ => fun
  | [d1, d2] => { results := [.lit (.bool true)], args := [d1, d2] }
  | _ => none }
def fnExactHitsSameRow : OpenClaim := { program := "ytlklclebjeeaaaa", sum := "794afa7c78cd7ad0605186243484672ba989d3e2dc96661c8d50e8135d46938c", func := "loop.example/macroexpander/laws.FnExactHitsSame", spec := "fnExactHitsSame", unfollowed := true, recurses := true, loops := true, apart := false }
def FnExactHitsSameSaid : Prop := fnExactHitsSameRow.holds Try.pinned (OpenSpec.ofChange fnExactHitsSameSpec)

/-- ITS FALSE NEIGHBOUR: 'it returns false'. Refute it at one input. -/
def fnExactHitsSameWrong : ChangeSpec := { name := "fnExactHitsSame", fn := fun _ => fun
  | [d1, d2] => { results := [.lit (.bool false)], args := [d1, d2] }
  | _ => none }
def FnExactHitsSameWrongFalsely : Prop := fnExactHitsSameRow.holds Try.pinned (OpenSpec.ofChange fnExactHitsSameWrong)

/-- 'laws.FnExactHitsValid': WHATEVER THE INPUT: true; the input reads as it did. -/
def fnExactHitsValidSpec : ChangeSpec := { name := "fnExactHitsValid", fn := fun _ => fun
  | [d] => { results := [.lit (.bool true)], args := [d] }
  | _ => none }
def fnExactHitsValidRow : OpenClaim := { program := "ytlklclebjeeaaaa", sum := "794afa7c78cd7ad0605186243484672ba989d3e2dc96661c8d50e8135d46938c", func := "loop.example/macroexpander/laws.FnExactHitsValid", spec := "fnExactHitsValid", inPlace := ["internal/bytealg.IndexByteString"], unfollowed := true, recurses := true, loops := true, apart := false }
def FnExactHitsValidSaid : Prop := fnExactHitsValidRow.holds Try.pinned (OpenSpec.ofChange fnExactHitsValidSpec)

/-- ITS FALSE NEIGHBOUR: 'it returns false'. Refute it at one input. -/
def fnExactHitsValidWrong : ChangeSpec := { name := "fnExactHitsValid", fn := fun _ => fun
  | [d] => { results := [.lit (.bool false)], args := [d] }
  | _ => none }
def FnExactHitsValidWrongFalsely : Prop := fnExactHitsValidRow.holds Try.pinned (OpenSpec.ofChange fnExactHitsValidWrong)

/-- 'laws.FnExactPatternValid': WHATEVER THE INPUT: true; the input reads as it did. -/
def fnExactPatternValidSpec : ChangeSpec := { name := "fnExactPatternValid", fn := fun _ => fun
  | [d1, d2] => { results := [.lit (.bool true)], args := [d1, d2] }
  | _ => none }
def fnExactPatternValidRow : OpenClaim := { program := "ytlklclebjeeaaaa", sum := "794afa7c78cd7ad0605186243484672ba989d3e2dc96661c8d50e8135d46938c", func := "loop.example/macroexpander/laws.FnExactPatternValid", spec := "fnExactPatternValid", inPlace := ["internal/bytealg.IndexByteString"], unfollowed := true, recurses := true, loops := true, apart := false }
def FnExactPatternValidSaid : Prop := fnExactPatternValidRow.holds Try.pinned (OpenSpec.ofChange fnExactPatternValidSpec)

/-- ITS FALSE NEIGHBOUR: 'it returns false'. Refute it at one input. -/
def fnExactPatternValidWrong : ChangeSpec := { name := "fnExactPatternValid", fn := fun _ => fun
  | [d1, d2] => { results := [.lit (.bool false)], args := [d1, d2] }
  | _ => none }
def FnExactPatternValidWrongFalsely : Prop := fnExactPatternValidRow.holds Try.pinned (OpenSpec.ofChange fnExactPatternValidWrong)

/-- 'laws.FnExactVarDepths': WHATEVER THE INPUT: true; the input reads as it did. -/
def fnExactVarDepthsSpec : ChangeSpec := { name := "fnExactVarDepths", fn := fun _ => fun
  | [d1, d2] => { results := [.lit (.bool true)], args := [d1, d2] }
  | _ => none }
def fnExactVarDepthsRow : OpenClaim := { program := "ytlklclebjeeaaaa", sum := "794afa7c78cd7ad0605186243484672ba989d3e2dc96661c8d50e8135d46938c", func := "loop.example/macroexpander/laws.FnExactVarDepths", spec := "fnExactVarDepths", inPlace := ["internal/bytealg.IndexByteString"], unfollowed := true, recurses := true, loops := true, apart := false }
def FnExactVarDepthsSaid : Prop := fnExactVarDepthsRow.holds Try.pinned (OpenSpec.ofChange fnExactVarDepthsSpec)

/-- ITS FALSE NEIGHBOUR: 'it returns false'. Refute it at one input. -/
def fnExactVarDepthsWrong : ChangeSpec := { name := "fnExactVarDepths", fn := fun _ => fun
  | [d1, d2] => { results := [.lit (.bool false)], args := [d1, d2] }
  | _ => none }
def FnExactVarDepthsWrongFalsely : Prop := fnExactVarDepthsRow.holds Try.pinned (OpenSpec.ofChange fnExactVarDepthsWrong)

/- THE SECOND FORM. 'bulk': how many values and letters a reading holds, each counted each time it is reached (what is shared counts as often as it is met; a slice's spare places count too). A statement '..UptoSaid' is the law's where the arguments, and the package variables that the reading takes, are together of bulk at most 1048576: NARROWER than '..Said'. Prove '..Said' where nothing that the law and all that it calls make is longer than what came in: it says more and counts as full. Else prove '..UptoSaid'. A law counts once. -/
mutual
def uptoBulk {H : Type} : DataW H → Nat
  | .lit (.string bytes) => bytes.length + 1
  | .lit _ => 1
  | .nil => 1
  | .ptr d => uptoBulk d + 1
  | .slice elems spare => uptoBulkAll elems + uptoBulkAll spare + 1
  | .agg parts => uptoBulkAll parts + 1
  | .iface _ d => uptoBulk d + 1
  | .map entries => uptoBulkEntries entries + 1
  | .held _ => 1
def uptoBulkAll {H : Type} : List (DataW H) → Nat
  | [] => 0
  | d :: r => uptoBulk d + uptoBulkAll r
def uptoBulkEntries {H : Type} : List (Lit × DataW H) → Nat
  | [] => 0
  | x :: r => uptoBulkEntry x + uptoBulkEntries r
def uptoBulkEntry {H : Type} : Lit × DataW H → Nat
  | (.string bytes, d) => bytes.length + uptoBulk d + 1
  | (_, d) => uptoBulk d + 1
 end
def uptoSmall : (H : Type) → List (DataW H) → Bool := fun _ ds => decide (uptoBulkAll ds ≤ 1048576)
def OpenSpec.upto (s : _root_.Go.ChangeSpec) : _root_.Go.OpenSpec := { _root_.Go.OpenSpec.ofChange s with cond := some uptoSmall }

/-- 'laws.FnExactFittingBinds', WHERE WHAT IT READS IS OF BULK AT MOST 1048576: true; the input reads as it did. -/
def fnExactFittingBindsUptoRow : OpenClaim := { program := "ytlklclebjeeaaaa", sum := "794afa7c78cd7ad0605186243484672ba989d3e2dc96661c8d50e8135d46938c", func := "loop.example/macroexpander/laws.FnExactFittingBinds", spec := "fnExactFittingBinds", inPlace := ["internal/bytealg.IndexByteString"], unfollowed := true, recurses := true, loops := true, apart := false, narrowed := true }
def FnExactFittingBindsUptoSaid : Prop := fnExactFittingBindsUptoRow.holds Try.pinned (OpenSpec.upto fnExactFittingBindsSpec)

/-- 'laws.FnExactHiddenBinds', WHERE WHAT IT READS IS OF BULK AT MOST 1048576: true; the input reads as it did. -/
def fnExactHiddenBindsUptoRow : OpenClaim := { program := "ytlklclebjeeaaaa", sum := "794afa7c78cd7ad0605186243484672ba989d3e2dc96661c8d50e8135d46938c", func := "loop.example/macroexpander/laws.FnExactHiddenBinds", spec := "fnExactHiddenBinds", inPlace := ["internal/bytealg.IndexByteString"], unfollowed := true, recurses := true, loops := true, apart := false, narrowed := true }
def FnExactHiddenBindsUptoSaid : Prop := fnExactHiddenBindsUptoRow.holds Try.pinned (OpenSpec.upto fnExactHiddenBindsSpec)

/-- 'laws.FnExactAddBind', WHERE WHAT IT READS IS OF BULK AT MOST 1048576: true; the input reads as it did. -/
def fnExactAddBindUptoRow : OpenClaim := { program := "ytlklclebjeeaaaa", sum := "794afa7c78cd7ad0605186243484672ba989d3e2dc96661c8d50e8135d46938c", func := "loop.example/macroexpander/laws.FnExactAddBind", spec := "fnExactAddBind", inPlace := ["internal/bytealg.IndexByteString"], unfollowed := true, recurses := true, loops := true, apart := false, narrowed := true }
def FnExactAddBindUptoSaid : Prop := fnExactAddBindUptoRow.holds Try.pinned (OpenSpec.upto fnExactAddBindSpec)

/-- 'laws.FnExactHitsSame', WHERE WHAT IT READS IS OF BULK AT MOST 1048576: true; the input reads as it did. -/
def fnExactHitsSameUptoRow : OpenClaim := { program := "ytlklclebjeeaaaa", sum := "794afa7c78cd7ad0605186243484672ba989d3e2dc96661c8d50e8135d46938c", func := "loop.example/macroexpander/laws.FnExactHitsSame", spec := "fnExactHitsSame", unfollowed := true, recurses := true, loops := true, apart := false, narrowed := true }
def FnExactHitsSameUptoSaid : Prop := fnExactHitsSameUptoRow.holds Try.pinned (OpenSpec.upto fnExactHitsSameSpec)

/-- 'laws.FnExactHitsValid', WHERE WHAT IT READS IS OF BULK AT MOST 1048576: true; the input reads as it did. -/
def fnExactHitsValidUptoRow : OpenClaim := { program := "ytlklclebjeeaaaa", sum := "794afa7c78cd7ad0605186243484672ba989d3e2dc96661c8d50e8135d46938c", func := "loop.example/macroexpander/laws.FnExactHitsValid", spec := "fnExactHitsValid", inPlace := ["internal/bytealg.IndexByteString"], unfollowed := true, recurses := true, loops := true, apart := false, narrowed := true }
def FnExactHitsValidUptoSaid : Prop := fnExactHitsValidUptoRow.holds Try.pinned (OpenSpec.upto fnExactHitsValidSpec)

/-- 'laws.FnExactPatternValid', WHERE WHAT IT READS IS OF BULK AT MOST 1048576: true; the input reads as it did. -/
def fnExactPatternValidUptoRow : OpenClaim := { program := "ytlklclebjeeaaaa", sum := "794afa7c78cd7ad0605186243484672ba989d3e2dc96661c8d50e8135d46938c", func := "loop.example/macroexpander/laws.FnExactPatternValid", spec := "fnExactPatternValid", inPlace := ["internal/bytealg.IndexByteString"], unfollowed := true, recurses := true, loops := true, apart := false, narrowed := true }
def FnExactPatternValidUptoSaid : Prop := fnExactPatternValidUptoRow.holds Try.pinned (OpenSpec.upto fnExactPatternValidSpec)

/-- 'laws.FnExactVarDepths', WHERE WHAT IT READS IS OF BULK AT MOST 1048576: true; the input reads as it did. -/
def fnExactVarDepthsUptoRow : OpenClaim := { program := "ytlklclebjeeaaaa", sum := "794afa7c78cd7ad0605186243484672ba989d3e2dc96661c8d50e8135d46938c", func := "loop.example/macroexpander/laws.FnExactVarDepths", spec := "fnExactVarDepths", inPlace := ["internal/bytealg.IndexByteString"], unfollowed := true, recurses := true, loops := true, apart := false, narrowed := true }
def FnExactVarDepthsUptoSaid : Prop := fnExactVarDepthsUptoRow.holds Try.pinned (OpenSpec.upto fnExactVarDepthsSpec)

end Rows
end Go.Proofs.Ytlklclebjeeaaaa
