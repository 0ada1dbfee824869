/- The program's ListForm returns what the reference's returns, in memory of its own. For every input the law FnExactListForm returns true, and leaves its input alone. No condition. -/
import Derived.Below
import Derived.ChangeOld
import Derived.JoinedOf
import Derived.KernelRfl
import Derived.OpenShut
import Derived.ProofKit
import Derived.RowKit3
import Derived.ShutString
import Derived.SizedLaws
import Derived.Test.YtnaefjilcabkoaaRows
import Derived.WalkKit
import Derived.Test.YtnaefjilcabkoaaKb1
import Derived.Test.YtnaefjilcabkoaaKb2
import Derived.Test.YtnaefjilcabkoaaKb3
section
namespace Go.Proofs.Ytnaefjilcabkoaa
open Go.RowKit Go.Proofs.YtnaefjilcabkoaaW.PrintWords Go.Proofs.YtnaefjilcabkoaaW.PrintLast Go.Proofs.YtnaefjilcabkoaaW.PrintMore
set_option linter.unusedVariables false
set_option linter.unusedSimpArgs false
set_option maxHeartbeats 4000000 in
set_option maxRecDepth 100000 in
theorem fnExactListForm_walk (ks : List Fm) (A : Option Addr) (c : Nat) (w : World) (hc : ks.length ≤ c) (hr : kF.C w A ks.length ks) (hnm : ∀ k, k ∈ ks → NmSmall k) :
    Calls Try.prog 11 #[.slice A ks.length c] w fun e w' => e = .returned (.bool true) ∧ Below w.heap.size w w' := by
  have HZ := Lib.hid (szFormS_any ks A c 1048576 w hr hc hnm (by omega) (by omega))
  rcases hz : orN (lf ks) with ⟨z, b⟩
  have hzt : totL ks ≤ 1048576 → z.tot ≤ 1048576 := fun h => by have := orNTot ks h; rw [hz] at this; exact this
  have HZT := Lib.hid (And.intro hz hzt)
  clear hz hzt
  have HI := Lib.hid (fun W (hb : Below w.heap.size w W) => Kd.C_below hr hb)
  clear hr
  go_enter Try.func11, Try.ntmps11
  go_wp2_with fail
  refine HZ.out.mono ?_
  rintro e w1 ⟨rfl, b1⟩
  have BW := Lib.hid b1
  clear b1 HZ
  by_cases hq : totL ks ≤ 1048576
  rotate_left
  · rw [szR_no (by omega)]
    have hd : decide ((-1 : Int) < 0) = true := by simp
    go_wp2_with fail
    go_ret
    exact ⟨rfl, BW.out⟩
  rw [szR_yes (by omega)]
  have hd : decide ((1048576 : Int) - (totL ks : Int) < 0) = false := decide_eq_false (by omega)
  go_wp2_with fail
  refine (toFormSO ks A c w1 (HI.out _ BW.out) hc hq).mono ?_
  rintro e w2 ⟨PA, Pc, rfl, o, bb⟩
  have IP := Lib.hid o.now
  replace BW := Lib.hid (below_step BW.out bb)
  clear o bb
  go_wp2_with fail
  refine (specListO HZT.out.1 PA Pc w2 IP.out.2 IP.out.1 hq).mono ?_
  rintro e w3 ⟨U3, Uc3, U4, Uc4, fu, rfl, o, bb⟩
  have IU := Lib.hid o.now
  replace BW := Lib.hid (below_step BW.out bb)
  clear o bb IP
  go_wp2_with fail
  have KU := Lib.hid (blk_new w3 (.cells #[.int .i64 z.f0, .string z.f1, .int .i64 z.f2, .slice U3 z.f3.length Uc3, .slice U4 z.f4.length Uc4] 29))
  have bb := below_new w3 (.cells #[.int .i64 z.f0, .string z.f1, .int .i64 z.f2, .slice U3 z.f3.length Uc3, .slice U4 z.f4.length Uc4] 29)
  replace IU := Lib.hid (IU.out.below bb)
  replace BW := Lib.hid (below_step BW.out bb)
  clear bb
  generalize w3.alloc (.cells #[.int .i64 z.f0, .string z.f1, .int .i64 z.f2, .slice U3 z.f3.length Uc3, .slice U4 z.f4.length Uc4] 29) = wX at KU IU BW ⊢
  refine (toFormSO ks A c wX (HI.out _ BW.out) hc hq).mono ?_
  rintro e w4 ⟨XA, Xc, rfl, o, bb⟩
  have OX := Lib.hid o
  have BX := Lib.hid bb
  have HSX := Lib.hid (show wX.heap.size ≤ w4.heap.size from bb.size)
  clear o bb
  go_wp2_with fail
  refine (implListO HZT.out.1 XA Xc w4 OX.out.now.2 OX.out.now.1 hq).mono ?_
  rintro e w5 ⟨G3, Gc3, G4, Gc4, fg, rfl, og, bb⟩
  have OG := Lib.hid og
  replace OX := Lib.hid (OX.out.later bb)
  replace BX := Lib.hid (below_step BX.out bb)
  have HS := Lib.hid (show w4.heap.size ≤ w5.heap.size ∧ wX.heap.size ≤ w4.heap.size from ⟨bb.size, HSX.out⟩)
  clear og bb
  have bn := below_new w5 (.cells #[.int .i64 z.f0, .string z.f1, .int .i64 z.f2, .slice G3 z.f3.length Gc3, .slice G4 z.f4.length Gc4] 29)
  obtain ⟨p0, p1, p2, p3, p4⟩ := fm_cells (blk_below (blk_below KU.out BX.out) bn)
  go_wp2_with fail
  clear p0 p1 p2 p3 p4
  refine (eqForm_any z z G3 Gc3 G4 Gc4 U3 Uc3 U4 Uc4 _ (OG.out.now.below bn) ((IU.out.below BX.out).below bn)).mono ?_
  rintro e w6 ⟨rfl, bb⟩
  obtain ⟨kg, bb⟩ := one_new bb
  have KG := Lib.hid kg
  clear kg bn
  replace OX := Lib.hid (OX.out.later bb)
  replace OG := Lib.hid (OG.out.later bb)
  replace BX := Lib.hid (below_step BX.out bb)
  clear bb
  rw [eqB_self]
  have hne : (b != b) = false := by simp
  go_wp2_with fail
  refine (toFormSO ks A c w6 (HI.out _ (below_step BW.out BX.out)) hc hq).mono ?_
  rintro e w7 ⟨YA, Yc, rfl, o, bb⟩
  have IY := Lib.hid o.now
  replace OX := Lib.hid (OX.out.later bb)
  replace OG := Lib.hid (OG.out.later bb)
  replace BX := Lib.hid (below_step BX.out bb)
  replace KG := Lib.hid (blk_below KG.out bb)
  clear o bb
  go_wp2_with fail
  refine (eqFormS_of ks ks (fun k _ => eqForm_any k) XA YA Xc Yc _ OX.out.now.2 OX.out.now.1 IY.out.2 IY.out.1).mono ?_
  rintro e w8 ⟨rfl, bb⟩
  replace OX := Lib.hid (OX.out.later bb)
  replace OG := Lib.hid (OG.out.later bb)
  replace BX := Lib.hid (below_step BX.out bb)
  replace KG := Lib.hid (blk_below KG.out bb)
  clear bb IY
  rw [eqB_self]
  go_wp2_with fail
  refine (markFormS_own 1 OX.out (by omega) (by omega)).mono ?_
  rintro e w9 ⟨rfl, hm⟩
  replace BX := Lib.hid (BX.out.trans (hm.below BX.out.size (Nat.le_refl _)))
  replace OG := Lib.hid (hm.own OG.out (.inl (Nat.le_refl _)))
  replace KG := Lib.hid (hm.blk KG.out (.inr HS.out.1))
  clear hm OX
  have hk : decide ((1 : Int) + (cntL ks : Int) < 0) = false := decide_eq_false (by omega)
  obtain ⟨p0, p1, p2, p3, p4⟩ := fm_cells (blk_below KU.out BX.out)
  obtain ⟨q0, q1, q2, q3, q4⟩ := fm_cells KG.out
  go_wp2_with fail
  clear p0 p1 p2 p3 p4 q0 q1 q2 q3 q4
  refine (eqForm_any z z G3 Gc3 G4 Gc4 U3 Uc3 U4 Uc4 _ OG.out.now (IU.out.below BX.out)).mono ?_
  rintro e w10 ⟨rfl, bb⟩
  replace OG := Lib.hid (OG.out.later bb)
  replace KG := Lib.hid (blk_below KG.out bb)
  replace BX := Lib.hid (below_step BX.out bb)
  clear bb
  rw [eqB_self]
  obtain ⟨p0, p1, p2, p3, p4⟩ := fm_cells KG.out
  go_wp2_with fail
  clear p0 p1 p2 p3 p4
  refine (markForm_own 1 OG.out (by omega) (by have := HZT.out.2 hq; omega)).mono ?_
  rintro e w11 ⟨rfl, om, hm⟩
  have OM := Lib.hid om
  replace BX := Lib.hid (BX.out.trans (hm.below BX.out.size (by have := HS.out; omega)))
  replace KG := Lib.hid (hm.blk KG.out (.inr (Nat.le_refl _)))
  clear hm om OG
  have hk2 : decide ((1 : Int) + (z.cnt : Int) < 0) = false := decide_eq_false (by omega)
  have hk3 : (((1 : Int) + (z.cnt : Int)) != (1 + (z.cnt : Int))) = false := by simp
  obtain ⟨p0, p1, p2, p3, p4⟩ := fm_cells KG.out
  go_wp2_with fail
  clear p0 p1 p2 p3 p4
  refine (heldForm_own 1 OM.out (by omega) (by have := HZT.out.2 hq; omega)).mono ?_
  rintro e w12 ⟨rfl, bb⟩
  replace OM := Lib.hid (OM.out.later bb)
  replace KG := Lib.hid (blk_below KG.out bb)
  replace BX := Lib.hid (below_step BX.out bb)
  clear bb
  go_wp2_with fail
  refine (toFormSO ks A c w12 (HI.out _ (below_step BW.out BX.out)) hc hq).mono ?_
  rintro e w13 ⟨QA, Qc, rfl, o, bb⟩
  have IQ := Lib.hid o.now
  replace OM := Lib.hid (OM.out.later bb)
  replace KG := Lib.hid (blk_below KG.out bb)
  replace BX := Lib.hid (below_step BX.out bb)
  clear o bb
  go_wp2_with fail
  refine (implListO HZT.out.1 QA Qc w13 IQ.out.2 IQ.out.1 hq).mono ?_
  rintro e w14 ⟨H3, Hc3, H4, Hc4, fh, rfl, o, bb⟩
  have IH := Lib.hid o.now
  clear IQ
  replace OM := Lib.hid (OM.out.later bb)
  replace KG := Lib.hid (blk_below KG.out bb)
  replace BX := Lib.hid (below_step BX.out bb)
  clear o bb
  have bn := below_new w14 (.cells #[.int .i64 z.f0, .string z.f1, .int .i64 z.f2, .slice H3 z.f3.length Hc3, .slice H4 z.f4.length Hc4] 29)
  obtain ⟨p0, p1, p2, p3, p4⟩ := fm_cells (blk_below (blk_below KU.out BX.out) bn)
  go_wp2_with fail
  clear p0 p1 p2 p3 p4
  refine (eqForm_any z z H3 Hc3 H4 Hc4 U3 Uc3 U4 Uc4 _ (IH.out.below bn) ((IU.out.below BX.out).below bn)).mono ?_
  rintro e w15 ⟨rfl, bb⟩
  replace bb := (one_new bb).2
  replace OM := Lib.hid (OM.out.later bb)
  replace KG := Lib.hid (blk_below KG.out bb)
  replace BX := Lib.hid (below_step BX.out bb)
  clear bb bn IH
  rw [eqB_self]
  obtain ⟨p0, p1, p2, p3, p4⟩ := fm_cells KG.out
  go_wp2_with fail
  clear p0 p1 p2 p3 p4
  refine (heldForm_own 1 OM.out (by omega) (by have := HZT.out.2 hq; omega)).mono ?_
  rintro e w16 ⟨rfl, bb⟩
  replace OM := Lib.hid (OM.out.later bb)
  replace KG := Lib.hid (blk_below KG.out bb)
  replace BX := Lib.hid (below_step BX.out bb)
  clear bb
  go_wp2_with fail
  go_ret
  exact ⟨rfl, below_step BW.out BX.out⟩
end Go.Proofs.Ytnaefjilcabkoaa
end
section
namespace Go.Proofs.Ytnaefjilcabkoaa.fnExactListForm
open Go.ChangeShapes Go.WideShapes Go.ChangeAt Go.RowKit Go.Proofs.Ytnaefjilcabkoaa
open Go.ChangeMaps (open_string shut_string)
set_option linter.unusedVariables false
theorem own : ownKnob Try.prog.godebug = none := by kernel_rfl
theorem laidOut : laidOutB Try.prog = true := by kernel_rfl
set_option maxRecDepth 100000 in
theorem lifted (os : Os) (started : os.Started) (H : Type) (enc : TypeId × Value → H) :
    ReturnsInHanded {} Try.checked os 11 .any (Rows.fnExactListFormSpec.pre6 enc Try.prog Try.f11 Rows.fnExactListFormRow.domain false) (Rows.fnExactListFormSpec.post enc Try.prog Try.f11 false true false false) := by
  refine returnsInHanded_of_change_sized (C := Try.checked) own started (by kernel_rfl) Try.func11
    (ChangeSpec.witness6 (enc := enc) (C := Try.checked) false ⟨#[], #[.slice none 0 0], []⟩ 8 (by kernel_rfl) (by kernel_rfl) (by kernel_rfl) (by kernel_rfl)) ?_
  intro W base args ds gs before hval0 hW hcnd hsz0 _
  have hsz : (DataW.weightsEach Try.prog (Try.f11.params.toList ++ Rows.fnExactListFormSpec.plain.varTypes Try.prog) (ds ++ gs)).all (· ≤ reachBytes) = true := hsz0
  have hval : ∀ (j : Nat) t v, Try.f11.params[j]? = some t → args[j]? = some v → Value.okWide Try.prog W .any base t v := hval0
  have hW' := hW
  obtain ⟨p, q, hA0, hV, rfl, hfz, hnd⟩ := hW
  have hA : DataW.TrodAll enc Try.prog W 0 (fun _ => true) true Try.f11.params.toList args.toList ds p := hA0
  rw [Try.params11] at hA hval hsz
  obtain ⟨v0, vs0, d0, ds0, p0, q0, hargs, rfl, rfl, h0, r0⟩ := trodAll_cons hA
  obtain ⟨rfl, rfl, rfl⟩ := trodAll_nil r0
  obtain rfl : args = #[v0] := by cases args; simp_all
  obtain ⟨rfl, rfl⟩ := trodVars_none hV
  have k0 := h0
  have lt0 : ∀ x ∈ p0, x.block < W.heap.size := by obtain ⟨m, hm⟩ := k0; exact DataW.trod_lt m _ _ _ hm
  obtain ⟨x0, A0, c0, rfl, hc0, hr0, z0⟩ := open_forms (hval 0 23 v0 rfl rfl) h0
  clear hA0 hval0 hsz0 hsz
  refine (fnExactListForm_walk x0 A0 c0 W hc0 hr0 z0).mono fun e W' ⟨he, bel⟩ => ?_
  subst he
  exact ⟨_, rfl, _, _, _, [], _, [], hW', trodAll_mk1 (shut_bool Try.underlying4 _), (trodAll_cons_mk (Below.trod laidOut (by kernel_rfl) (of_decide_eq_true (by kernel_rfl)) k0 bel lt0) trodAll_mk0), rfl, bel.frame _, fun h => by cases h⟩
set_option maxRecDepth 100000 in
theorem closed : joinedFacts Try.prog 11 Try.f11 Rows.fnExactListFormSpec Rows.fnExactListFormRow = true := by
  unfold joinedFacts
  refine Bool.and_eq_true_iff.2 ⟨Bool.and_eq_true_iff.2 ⟨Bool.and_eq_true_iff.2 ⟨Bool.and_eq_true_iff.2 ⟨Bool.and_eq_true_iff.2 ⟨Bool.and_eq_true_iff.2 ⟨Bool.and_eq_true_iff.2 ⟨?_, mayEnter_yes⟩, (congrArg (fun b => Rows.fnExactListFormRow.lifted == b) liftsFinal_no).trans (by kernel_rfl)⟩, (congrArg (fun b => b == some Rows.fnExactListFormRow.make) make_cut).trans (by kernel_rfl)⟩, ?_⟩, ?_⟩, ?_⟩, ?_⟩
  all_goals kernel_rfl
theorem over : Rows.fnExactListFormRow.holds Try.pinned (OpenSpec.ofChange Rows.fnExactListFormSpec) :=
  OpenClaim.holds_of_wide 11 Try.f11 rfl rfl rfl rfl rfl rfl rfl ⟨rfl, rfl, rfl, rfl, rfl⟩ rfl rfl rfl rfl rfl (by kernel_rfl) Try.func11 closed
    (of_decide_eq_true (by kernel_rfl)) (by unfold Func.isWrapper; first | (rw [if_pos (by decide +kernel)]; kernel_rfl) | (rw [if_neg (by decide +kernel)]; exact ⟨rfl, rfl⟩))
    (fun os started H enc _ => lifted os started H enc)
end Go.Proofs.Ytnaefjilcabkoaa.fnExactListForm
namespace Go.Proofs.Ytnaefjilcabkoaa
/-- The row. -/
theorem fnExactListForm_holds : Rows.FnExactListFormSaid := fnExactListForm.over
#print axioms fnExactListForm_holds
end Go.Proofs.Ytnaefjilcabkoaa
end
