/- The two closed facts of a row that grow with the number of the cut's roots, out of the first eighty signs of the program's start line alone. -/
import Derived.Test.YtlghpblifbaciaaRows
import Derived.KernelRfl
import Derived.JoinedOf
namespace Go.Proofs.Ytlghpblifbaciaa
open Go
set_option maxRecDepth 100000
set_option linter.unusedVariables false
theorem startLine : ∃ r, Try.prog.initOrder.toList = List.take 80 Try.prog.initOrder.toList ++ r := ⟨List.drop 80 Try.prog.initOrder.toList, by rw [List.take_append_drop]⟩
theorem words_of (r : List Char) : behindMainWord (wordsSigns (List.take 80 Try.prog.initOrder.toList ++ r)) = "cut".toList :: "at".toList :: wordsSigns r := by
  rw [show Try.prog.initOrder.toList = _ from String.toList_ofList]
  kernel_rfl
theorem laysLater_no : Try.prog.laysLater = false := by kernel_rfl
theorem bearsReflect_no : Try.prog.bearsReflect = false := by kernel_rfl
theorem doorFits_yes : Try.prog.doorFits [] = true := by kernel_rfl
theorem strip_cut (ws : List (List Char)) : stripLifts liftWords ("cut".toList :: ws) = ([], "cut".toList :: ws) := by kernel_rfl
theorem mayEnter_of (P : Program) (r : List (List Char)) (h : behindMainWord (wordsSigns P.initOrder.toList) = "cut".toList :: "at".toList :: r) (h1 : P.laysLater = false) (h2 : P.bearsReflect = false) (h3 : P.doorFits [] = true) : P.mayEnter = true := by
  unfold Program.mayEnter
  rw [h]
  dsimp only
  rw [strip_cut, h1, h2, h3]
  kernel_rfl
theorem headLifts_of (P : Program) (r : List (List Char)) (h : behindMainWord (wordsSigns P.initOrder.toList) = "cut".toList :: "at".toList :: r) : P.headLifts = [] := by
  unfold Program.headLifts
  rw [h, strip_cut]
  kernel_rfl
theorem liftsFinal_of (P : Program) (r : List (List Char)) (h : behindMainWord (wordsSigns P.initOrder.toList) = "cut".toList :: "at".toList :: r) : P.liftsFinal = false := by
  unfold Program.liftsFinal
  rw [headLifts_of P r h, h]
  kernel_rfl
theorem make_of (P : Program) (r : List (List Char)) (h : behindMainWord (wordsSigns P.initOrder.toList) = "cut".toList :: "at".toList :: r) : P.make = some .cut := by
  unfold Program.make
  rw [h]
  kernel_rfl
theorem start_words : ∃ r, behindMainWord (wordsSigns Try.prog.initOrder.toList) = "cut".toList :: "at".toList :: r := by
  obtain ⟨r, hr⟩ := startLine
  exact ⟨wordsSigns r, (congrArg (fun l => behindMainWord (wordsSigns l)) hr).trans (words_of r)⟩
theorem mayEnter_yes : Try.prog.mayEnter = true := by
  obtain ⟨r, h⟩ := start_words
  exact mayEnter_of _ r h laysLater_no bearsReflect_no doorFits_yes
theorem liftsFinal_no : Try.prog.liftsFinal = false := by
  obtain ⟨r, h⟩ := start_words
  exact liftsFinal_of _ r h
theorem make_cut : Try.prog.make = some .cut := by
  obtain ⟨r, h⟩ := start_words
  exact make_of _ r h
end Go.Proofs.Ytlghpblifbaciaa
