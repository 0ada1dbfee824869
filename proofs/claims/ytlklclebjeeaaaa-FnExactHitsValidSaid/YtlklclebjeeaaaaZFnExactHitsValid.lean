/- The program's HitsValid returns what the reference's returns, and leaves its arguments alone. For every input the law FnExactHitsValid returns true, and leaves its input alone. No condition. -/
import Derived.Below
import Derived.ChangeOld
import Derived.Deep.RegionHeld3
import Derived.JoinedOf
import Derived.KernelRfl
import Derived.OpenShut
import Derived.ProofKit
import Derived.RowKit3
import Derived.ShutString
import Derived.SizedLaws
import Derived.Test.YtlklclebjeeaaaaRows
import Derived.WalkKit
import Derived.Test.YtlklclebjeeaaaaHb1
import Derived.Test.YtlklclebjeeaaaaHb2
import Derived.Test.YtlklclebjeeaaaaHb4
section
namespace Go.Proofs.Ytlklclebjeeaaaa
open Go.RowKit Go.Proofs.YtlklclebjeeaaaaW.PrintWords Go.Proofs.YtlklclebjeeaaaaW.PrintLast Go.Proofs.YtlklclebjeeaaaaW.PrintMore
set_option linter.unusedVariables false
set_option linter.unusedSimpArgs false
theorem toHitSX (ks : List Ht) (A : Option Addr) (c : Nat) (w : World) (hr : kH.C w A ks.length ks) (hc : ks.length ≤ c) (ht : totH ks ≤ 1048576) :
    Calls Try.prog 30 #[.slice A ks.length c] w (fun e w' => ∃ (B : Option Addr) (d : Nat), e = .returned (.slice B ks.length d) ∧ ks.length ≤ d ∧ kH.C w' B ks.length ks ∧ Below w.heap.size w w') := by
  refine (toHitS_any ks A c w hr hc ht).mono ?_
  rintro e w' ⟨B, d, rfl, ⟨hd, hC⟩, hb⟩
  exact ⟨B, d, rfl, hd, hC w' (Nat.le_refl _) (fun _ _ _ => rfl), hb⟩
set_option maxHeartbeats 4000000 in
set_option maxRecDepth 100000 in
theorem fnExactHitsValid_walk (a : List Ht) (A : Option Addr) (c : Nat) (w : World) (hc : a.length ≤ c) (hr : kH.C w A a.length a) (ha : ∀ k, k ∈ a → HtSmall k) :
    Calls Try.prog 7 #[.slice A a.length c] w fun e w' => e = .returned (.bool true) ∧ Below w.heap.size w w' := by
  have hmax := hr.2.1
  have HZ := Lib.hid (szHitS_any a A c 1048576 w hr hc ha (by omega) (by omega))
  have HR := Lib.hid (fun W (hb : Below w.heap.size w W) => Kd.C_below hr hb)
  clear hr ha
  go_enter Try.func7, Try.ntmps7
  go_wp2_with fail
  refine HZ.out.mono ?_
  rintro e w1 ⟨rfl, hb1⟩
  have BW := Lib.hid hb1
  clear hb1 HZ
  by_cases hq : totH a ≤ 1048576
  rotate_left
  · rw [szR_no (by omega)]
    have hd : decide ((-1 : Int) < 0) = true := by simp
    go_wp2_with fail
    go_ret
    exact ⟨rfl, BW.out⟩
  rw [szR_yes (by omega)]
  have hd : decide ((1048576 : Int) - (totH a : Int) < 0) = false := decide_eq_false (by omega)
  have HT := Lib.hid (fun W hb => toHitSX a A c W (HR.out W hb) hc hq)
  go_wp2_with fail
  refine (HT.out _ BW.out).mono ?_
  rintro e wa ⟨EA, ec, rfl, hec, hE, bb⟩
  have IE := Lib.hid (And.intro hec hE)
  replace BW := Lib.hid (below_step BW.out bb)
  clear bb hec hE
  go_wp2_with fail
  refine (specHitsValid_any a EA ec _ IE.out.2 IE.out.1 hq).mono ?_
  rintro e ws ⟨rfl, bb⟩
  replace BW := Lib.hid (below_step BW.out bb)
  clear bb IE
  go_wp2_with fail
  refine (HT.out _ BW.out).mono ?_
  rintro e w4 ⟨XA, Xc, rfl, hxc, hX, bb⟩
  have IX := Lib.hid (And.intro hxc hX)
  replace BW := Lib.hid (below_step BW.out bb)
  clear bb hxc hX
  go_wp2_with fail
  refine (implHitsValid_any a XA Xc _ IX.out.2 IX.out.1 hq).mono ?_
  rintro e w6 ⟨rfl, bb⟩
  replace IX := Lib.hid (And.intro IX.out.1 (Kd.C_below IX.out.2 bb))
  replace BW := Lib.hid (below_step BW.out bb)
  clear bb
  generalize pB (HitsOk a) = r0
  have hn0 : (r0 != r0) = false := by simp
  go_wp2_with fail
  refine (HT.out _ BW.out).mono ?_
  rintro e w7 ⟨QA, Qc, rfl, hqc, hQ, bb⟩
  have IQ := Lib.hid (And.intro hqc hQ)
  replace IX := Lib.hid (And.intro IX.out.1 (Kd.C_below IX.out.2 bb))
  replace BW := Lib.hid (below_step BW.out bb)
  clear bb hqc hQ
  go_wp2_with fail
  refine (eqHitS_any a XA QA Xc Qc w7 IX.out.2 IX.out.1 IQ.out.2 IQ.out.1).mono ?_
  rintro e w8 ⟨rfl, bb⟩
  replace BW := Lib.hid (below_step BW.out bb)
  clear bb IX IQ
  go_wp2_with fail
  go_ret
  exact ⟨rfl, BW.out⟩
end Go.Proofs.Ytlklclebjeeaaaa
end
section
namespace Go.Proofs.Ytlklclebjeeaaaa.fnExactHitsValid
open Go.ChangeShapes Go.WideShapes Go.ChangeAt Go.RowKit Go.Proofs.Ytlklclebjeeaaaa
open Go.ChangeMaps (open_string shut_string)
set_option linter.unusedVariables false
theorem own : ownKnob Try.prog.godebug = none := by kernel_rfl
theorem laidOut : laidOutB Try.prog = true := by kernel_rfl
set_option maxRecDepth 100000 in
theorem lifted (os : Os) (started : os.Started) (H : Type) (enc : TypeId × Value → H) :
    ReturnsInHanded {} Try.checked os 7 .any (Rows.fnExactHitsValidSpec.pre6 enc Try.prog Try.f7 Rows.fnExactHitsValidRow.domain false) (Rows.fnExactHitsValidSpec.post enc Try.prog Try.f7 false true false false) := by
  refine returnsInHanded_of_change_sized (C := Try.checked) own started (by kernel_rfl) Try.func7
    (ChangeSpec.witness6 (enc := enc) (C := Try.checked) false ⟨#[], #[.slice none 0 0], []⟩ 8 (by kernel_rfl) (by kernel_rfl) (by kernel_rfl) (by kernel_rfl)) ?_
  intro W base args ds gs before hval0 hW hcnd hsz0 _
  have hsz : (DataW.weightsEach Try.prog (Try.f7.params.toList ++ Rows.fnExactHitsValidSpec.plain.varTypes Try.prog) (ds ++ gs)).all (· ≤ reachBytes) = true := hsz0
  have hval : ∀ (j : Nat) t v, Try.f7.params[j]? = some t → args[j]? = some v → Value.okWide Try.prog W .any base t v := hval0
  have hW' := hW
  obtain ⟨p, q, hA0, hV, rfl, hfz, hnd⟩ := hW
  have hA : DataW.TrodAll enc Try.prog W 0 (fun _ => true) true Try.f7.params.toList args.toList ds p := hA0
  rw [Try.params7] at hA hval hsz
  obtain ⟨v0, vs0, d0, ds0, p0, q0, hargs, rfl, rfl, h0, r0⟩ := trodAll_cons hA
  obtain ⟨rfl, rfl, rfl⟩ := trodAll_nil r0
  obtain rfl : args = #[v0] := by cases args; simp_all
  obtain ⟨rfl, rfl⟩ := trodVars_none hV
  have k0 := h0
  have lt0 : ∀ x ∈ p0, x.block < W.heap.size := by obtain ⟨m, hm⟩ := k0; exact DataW.trod_lt m _ _ _ hm
  obtain ⟨x0, A0, c0, rfl, hc0, hr0, z0⟩ := open_hits (hval 0 46 v0 rfl rfl) h0
  clear hA0 hval0 hsz0 hsz
  refine (fnExactHitsValid_walk x0 A0 c0 W hc0 hr0 z0).mono fun e W' ⟨he, bel⟩ => ?_
  subst he
  exact ⟨_, rfl, _, _, _, [], _, [], hW', trodAll_mk1 (shut_bool Try.underlying4 _), (trodAll_cons_mk (Below.trod laidOut (by kernel_rfl) (of_decide_eq_true (by kernel_rfl)) k0 bel lt0) trodAll_mk0), rfl, bel.frame _, fun h => by cases h⟩
set_option maxRecDepth 100000 in
theorem closed : joinedFacts Try.prog 7 Try.f7 Rows.fnExactHitsValidSpec Rows.fnExactHitsValidRow = true := by
  unfold joinedFacts
  refine Bool.and_eq_true_iff.2 ⟨Bool.and_eq_true_iff.2 ⟨Bool.and_eq_true_iff.2 ⟨Bool.and_eq_true_iff.2 ⟨Bool.and_eq_true_iff.2 ⟨Bool.and_eq_true_iff.2 ⟨Bool.and_eq_true_iff.2 ⟨?_, mayEnter_yes⟩, (congrArg (fun b => Rows.fnExactHitsValidRow.lifted == b) liftsFinal_no).trans (by kernel_rfl)⟩, (congrArg (fun b => b == some Rows.fnExactHitsValidRow.make) make_cut).trans (by kernel_rfl)⟩, ?_⟩, ?_⟩, ?_⟩, ?_⟩
  all_goals kernel_rfl
theorem over : Rows.fnExactHitsValidRow.holds Try.pinned (OpenSpec.ofChange Rows.fnExactHitsValidSpec) :=
  OpenClaim.holds_of_wide 7 Try.f7 rfl rfl rfl rfl rfl rfl rfl ⟨rfl, rfl, rfl, rfl, rfl⟩ rfl rfl rfl rfl rfl (by kernel_rfl) Try.func7 closed
    (of_decide_eq_true (by kernel_rfl)) (by unfold Func.isWrapper; first | (rw [if_pos (by decide +kernel)]; kernel_rfl) | (rw [if_neg (by decide +kernel)]; exact ⟨rfl, rfl⟩))
    (fun os started H enc _ => lifted os started H enc)
end Go.Proofs.Ytlklclebjeeaaaa.fnExactHitsValid
namespace Go.Proofs.Ytlklclebjeeaaaa
/-- The row. -/
theorem fnExactHitsValid_holds : Rows.FnExactHitsValidSaid := fnExactHitsValid.over
#print axioms fnExactHitsValid_holds
end Go.Proofs.Ytlklclebjeeaaaa
end
