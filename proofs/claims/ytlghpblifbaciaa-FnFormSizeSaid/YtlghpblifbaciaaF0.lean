/- Forms, bindings and hits as plain data (no program is in sight here). -/
import Derived.Tactics
namespace Go.Proofs.Ytlghpblifbaciaa
/-- A form: kind, name, number, scopes, parts. -/
structure Fm where
  f0 : Int
  f1 : ByteArray
  f2 : Int
  f3 : List Int
  f4 : List Fm
/-- A binding: name, scopes, number. -/
structure Bd where
  f0 : ByteArray
  f1 : List Int
  f2 : Int
/-- A hit: name, depth, one form, many hits. -/
structure Ht where
  f0 : Fm
  f1 : Int
  f2 : Fm
  f3 : List Ht
end Go.Proofs.Ytlghpblifbaciaa
