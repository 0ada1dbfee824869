/- The program's BindsValid returns what the reference's returns, and leaves its argument alone. For every input the law FnExactBindsValid returns true, and leaves its input alone. No condition. -/
import Derived.Below
import Derived.ChangeOld
import Derived.JoinedOf
import Derived.KernelRfl
import Derived.OpenShut
import Derived.ProofKit
import Derived.RowKit3
import Derived.ShutString
import Derived.SizedLaws
import Derived.Test.YtnaefjilcabkoaaRows
import Derived.WalkKit
import Derived.Test.YtnaefjilcabkoaaKc1
import Derived.Test.YtnaefjilcabkoaaKc4
section
namespace Go.Proofs.Ytnaefjilcabkoaa
open Go.RowKit Go.Proofs.YtnaefjilcabkoaaW.PrintWords Go.Proofs.YtnaefjilcabkoaaW.PrintLast Go.Proofs.YtnaefjilcabkoaaW.PrintMore
set_option linter.unusedVariables false
set_option linter.unusedSimpArgs false
set_option maxHeartbeats 4000000 in
set_option maxRecDepth 100000 in
theorem fnExactBindsValid_walk (l : List Bd) (A : Option Addr) (c : Nat) (w : World) (hc : l.length ≤ c) (hr : kB.C w A l.length l) (hl : ∀ b, b ∈ l → BdSmall b) :
    Calls Try.prog 10 #[.slice A l.length c] w fun e w' => e = .returned (.bool true) ∧ Below w.heap.size w w' := by
  have hmax := hr.2.1
  have HZ := Lib.hid (szB_any l A c w hr hc hl (by omega))
  have HI := Lib.hid (fun W (hb : Below w.heap.size w W) => Kd.C_below hr hb)
  have hnm : ∀ b, b ∈ l → l.length + totB l ≤ 1048576 → b.f0.size ≤ 140737488351232 := fun b hb h => by have := totB_mem hb; omega
  have HN := Lib.hid hnm
  clear hr hl hnm
  go_enter Try.func10, Try.ntmps10
  go_wp2_with fail
  refine HZ.out.mono ?_
  rintro e w1 ⟨rfl, b1⟩
  have BW := Lib.hid b1
  clear b1 HZ
  by_cases hq : l.length + totB l ≤ 1048576
  rotate_left
  · rw [szR_no (by omega)]
    have hd : decide ((-1 : Int) < 0) = true := by simp
    go_wp2_with fail
    go_ret
    exact ⟨rfl, BW.out⟩
  rw [szR_yes (by omega)]
  have hd : decide ((1048576 : Int) - ((l.length + totB l : Nat) : Int) < 0) = false := decide_eq_false (by omega)
  go_wp2_with fail
  refine (toB_any l A c w1 (HI.out _ BW.out) hc (smB_of hq)).mono ?_
  rintro e w2 ⟨PA, Pc, rfl, hpc, hP, bb⟩
  have IP := Lib.hid (And.intro hpc hP)
  replace BW := Lib.hid (below_step BW.out bb)
  clear bb hpc hP
  go_wp2_with fail
  refine (specBinds_any l PA Pc w2 IP.out.2 IP.out.1 (smB_of hq)).mono ?_
  rintro e w3 ⟨rfl, bb⟩
  replace BW := Lib.hid (below_step BW.out bb)
  clear bb IP
  go_wp2_with fail
  refine (toB_any l A c w3 (HI.out _ BW.out) hc (smB_of hq)).mono ?_
  rintro e w4 ⟨XA, Xc, rfl, hxc, hX, bb⟩
  have IX := Lib.hid (And.intro hxc hX)
  replace BW := Lib.hid (below_step BW.out bb)
  clear bb hxc hX
  go_wp2_with fail
  refine (implBinds_any l XA Xc w4 IX.out.2 IX.out.1 (fun b hb => HN.out b hb hq)).mono ?_
  rintro e w5 ⟨rfl, bb⟩
  have IY := Lib.hid (And.intro IX.out.1 (Kd.C_below IX.out.2 bb))
  replace BW := Lib.hid (below_step BW.out bb)
  clear bb IX
  have hne : (pB (BdsOk l) != pB (BdsOk l)) = false := by simp
  go_wp2_with fail
  refine (toB_any l A c w5 (HI.out _ BW.out) hc (smB_of hq)).mono ?_
  rintro e w6 ⟨QA, Qc, rfl, hqc, hQ, bb⟩
  have IZ := Lib.hid (And.intro IY.out.1 (Kd.C_below IY.out.2 bb))
  have IQ := Lib.hid (And.intro hqc hQ)
  replace BW := Lib.hid (below_step BW.out bb)
  clear bb hqc hQ IY
  go_wp2_with fail
  refine (eqB_any l XA Xc QA Qc w6 IZ.out.2 IZ.out.1 IQ.out.2 IQ.out.1 (smB_of hq)).mono ?_
  rintro e w7 ⟨rfl, bb⟩
  replace BW := Lib.hid (below_step BW.out bb)
  clear bb IZ IQ
  go_wp2_with fail
  go_ret
  exact ⟨rfl, BW.out⟩
end Go.Proofs.Ytnaefjilcabkoaa
end
section
namespace Go.Proofs.Ytnaefjilcabkoaa.fnExactBindsValid
open Go.ChangeShapes Go.WideShapes Go.ChangeAt Go.RowKit Go.Proofs.Ytnaefjilcabkoaa
open Go.ChangeMaps (open_string shut_string)
set_option linter.unusedVariables false
theorem own : ownKnob Try.prog.godebug = none := by kernel_rfl
theorem laidOut : laidOutB Try.prog = true := by kernel_rfl
set_option maxRecDepth 100000 in
theorem lifted (os : Os) (started : os.Started) (H : Type) (enc : TypeId × Value → H) :
    ReturnsInHanded {} Try.checked os 10 .any (Rows.fnExactBindsValidSpec.pre6 enc Try.prog Try.f10 Rows.fnExactBindsValidRow.domain false) (Rows.fnExactBindsValidSpec.post enc Try.prog Try.f10 false true false false) := by
  refine returnsInHanded_of_change_sized (C := Try.checked) own started (by kernel_rfl) Try.func10
    (ChangeSpec.witness6 (enc := enc) (C := Try.checked) false ⟨#[], #[.slice none 0 0], []⟩ 8 (by kernel_rfl) (by kernel_rfl) (by kernel_rfl) (by kernel_rfl)) ?_
  intro W base args ds gs before hval0 hW hcnd hsz0 _
  have hsz : (DataW.weightsEach Try.prog (Try.f10.params.toList ++ Rows.fnExactBindsValidSpec.plain.varTypes Try.prog) (ds ++ gs)).all (· ≤ reachBytes) = true := hsz0
  have hval : ∀ (j : Nat) t v, Try.f10.params[j]? = some t → args[j]? = some v → Value.okWide Try.prog W .any base t v := hval0
  have hW' := hW
  obtain ⟨p, q, hA0, hV, rfl, hfz, hnd⟩ := hW
  have hA : DataW.TrodAll enc Try.prog W 0 (fun _ => true) true Try.f10.params.toList args.toList ds p := hA0
  rw [Try.params10] at hA hval hsz
  obtain ⟨v0, vs0, d0, ds0, p0, q0, hargs, rfl, rfl, h0, r0⟩ := trodAll_cons hA
  obtain ⟨rfl, rfl, rfl⟩ := trodAll_nil r0
  obtain rfl : args = #[v0] := by cases args; simp_all
  obtain ⟨rfl, rfl⟩ := trodVars_none hV
  have k0 := h0
  have lt0 : ∀ x ∈ p0, x.block < W.heap.size := by obtain ⟨m, hm⟩ := k0; exact DataW.trod_lt m _ _ _ hm
  obtain ⟨x0, A0, c0, rfl, hc0, hr0, z0⟩ := open_binds (hval 0 47 v0 rfl rfl) h0
  clear hA0 hval0 hsz0 hsz
  refine (fnExactBindsValid_walk x0 A0 c0 W hc0 hr0 z0).mono fun e W' ⟨he, bel⟩ => ?_
  subst he
  exact ⟨_, rfl, _, _, _, [], _, [], hW', trodAll_mk1 (shut_bool Try.underlying4 _), (trodAll_cons_mk (Below.trod laidOut (by kernel_rfl) (of_decide_eq_true (by kernel_rfl)) k0 bel lt0) trodAll_mk0), rfl, bel.frame _, fun h => by cases h⟩
set_option maxRecDepth 100000 in
theorem closed : joinedFacts Try.prog 10 Try.f10 Rows.fnExactBindsValidSpec Rows.fnExactBindsValidRow = true := by
  unfold joinedFacts
  refine Bool.and_eq_true_iff.2 ⟨Bool.and_eq_true_iff.2 ⟨Bool.and_eq_true_iff.2 ⟨Bool.and_eq_true_iff.2 ⟨Bool.and_eq_true_iff.2 ⟨Bool.and_eq_true_iff.2 ⟨Bool.and_eq_true_iff.2 ⟨?_, mayEnter_yes⟩, (congrArg (fun b => Rows.fnExactBindsValidRow.lifted == b) liftsFinal_no).trans (by kernel_rfl)⟩, (congrArg (fun b => b == some Rows.fnExactBindsValidRow.make) make_cut).trans (by kernel_rfl)⟩, ?_⟩, ?_⟩, ?_⟩, ?_⟩
  all_goals kernel_rfl
theorem over : Rows.fnExactBindsValidRow.holds Try.pinned (OpenSpec.ofChange Rows.fnExactBindsValidSpec) :=
  OpenClaim.holds_of_wide 10 Try.f10 rfl rfl rfl rfl rfl rfl rfl ⟨rfl, rfl, rfl, rfl, rfl⟩ rfl rfl rfl rfl rfl (by kernel_rfl) Try.func10 closed
    (of_decide_eq_true (by kernel_rfl)) (by unfold Func.isWrapper; first | (rw [if_pos (by decide +kernel)]; kernel_rfl) | (rw [if_neg (by decide +kernel)]; exact ⟨rfl, rfl⟩))
    (fun os started H enc _ => lifted os started H enc)
end Go.Proofs.Ytnaefjilcabkoaa.fnExactBindsValid
namespace Go.Proofs.Ytnaefjilcabkoaa
/-- The row. -/
theorem fnExactBindsValid_holds : Rows.FnExactBindsValidSaid := fnExactBindsValid.over
#print axioms fnExactBindsValid_holds
end Go.Proofs.Ytnaefjilcabkoaa
end
