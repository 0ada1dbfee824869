/- The program's NamesOf returns what the reference's returns, in memory of its own. For every input the law FnExactNamesOf returns true, and leaves its input alone. No condition. -/
import Derived.Below
import Derived.ChangeOld
import Derived.Deep.RegionHeld3
import Derived.JoinedOf
import Derived.KernelRfl
import Derived.OpenShut
import Derived.ProofKit
import Derived.RowKit3
import Derived.ShutString
import Derived.SizedLaws
import Derived.Test.YtnaefjilcabkoaaRows
import Derived.WalkKit
import Derived.Test.YtnaefjilcabkoaaKb1
import Derived.Test.YtnaefjilcabkoaaKb2
import Derived.Test.YtnaefjilcabkoaaKb3
section
namespace Go.Proofs.Ytnaefjilcabkoaa
open Go.RowKit Go.Proofs.YtnaefjilcabkoaaW.PrintWords Go.Proofs.YtnaefjilcabkoaaW.PrintLast Go.Proofs.YtnaefjilcabkoaaW.PrintMore
set_option linter.unusedVariables false
set_option linter.unusedSimpArgs false
set_option maxHeartbeats 4000000 in
set_option maxRecDepth 100000 in
theorem fnExactNamesOf_walk (x : Fm) (A3 : Option Addr) (Ac3 : Nat) (A4 : Option Addr) (Ac4 : Nat) (w : World) (hin : FmIn w x A3 Ac3 A4 Ac4) (hnm : NmSmall x) :
    Calls Try.prog 4 #[.agg #[.int .i64 x.f0, .string x.f1, .int .i64 x.f2, .slice A3 x.f3.length Ac3, .slice A4 x.f4.length Ac4]] w fun e w' => e = .returned (.bool true) ∧ Below w.heap.size w w' := by
  have HZ := Lib.hid (fun W hb => szForm_any x A3 Ac3 A4 Ac4 1048576 W (hin.below hb) hnm (by omega) (by omega))
  obtain ⟨l, hz⟩ : ∃ l, namesN x = l := ⟨_, rfl⟩
  have hzt : x.tot ≤ 1048576 → l.length ≤ 1048577 := fun h => by have := namesLen x; rw [hz] at this; omega
  have HZT := Lib.hid (And.intro hz hzt)
  clear hz hzt
  have HI := Lib.hid hin
  clear hin
  go_enter Try.func4, Try.ntmps4
  go_wp2_with fail
  refine (HZ.out _ (below_new _ _)).mono ?_
  rintro e w1 ⟨rfl, hb1⟩
  obtain ⟨k1, b1⟩ := one_new hb1
  have KA := Lib.hid k1
  have BW := Lib.hid b1
  clear hb1 k1 b1 HZ
  by_cases hq : x.tot ≤ 1048576
  rotate_left
  · rw [szR_no (by omega)]
    have hd : decide ((-1 : Int) < 0) = true := by simp
    go_wp2_with fail
    go_ret
    exact ⟨rfl, BW.out⟩
  rw [szR_yes (by omega)]
  have hd : decide ((1048576 : Int) - (x.tot : Int) < 0) = false := decide_eq_false (by omega)
  obtain ⟨p0, p1, p2, p3, p4⟩ := fm_cells KA.out
  go_wp2_with fail
  clear p0 p1 p2 p3 p4
  refine (toFormO x A3 Ac3 A4 Ac4 w1 (HI.out.below BW.out) hq).mono ?_
  rintro e w2 ⟨P3, Pc3, P4, Pc4, fp0, rfl, o, bb⟩
  have IP := Lib.hid o.now
  replace KA := Lib.hid (blk_below KA.out bb)
  replace BW := Lib.hid (below_step BW.out bb)
  clear o bb
  go_wp2_with fail
  refine (specNmO HZT.out.1 P3 Pc3 P4 Pc4 w2 IP.out hq).mono ?_
  rintro e wX ⟨UA, Uc, rfl, hul, huc, bb⟩
  have IU := Lib.hid (And.intro hul huc)
  replace KA := Lib.hid (blk_below KA.out bb)
  replace BW := Lib.hid (below_step BW.out bb)
  clear hul huc bb IP
  obtain ⟨p0, p1, p2, p3, p4⟩ := fm_cells KA.out
  go_wp2_with fail
  clear p0 p1 p2 p3 p4
  refine (toFormO x A3 Ac3 A4 Ac4 wX (HI.out.below BW.out) hq).mono ?_
  rintro e w4 ⟨X3, Xc3, X4, Xc4, fx, rfl, ox, bb⟩
  have HSX := Lib.hid (show wX.heap.size ≤ w4.heap.size from bb.size)
  have OX := Lib.hid ox
  have BX := Lib.hid bb
  clear ox bb
  go_wp2_with fail
  refine (implNmO HZT.out.1 X3 Xc3 X4 Xc4 _ (OX.out.now.below (below_new _ _)) hq).mono ?_
  rintro e w5 ⟨GA, Gc, rfl, og, bb⟩
  obtain ⟨kx, bb⟩ := one_new bb
  obtain ⟨lo, hlo, og⟩ : ∃ lo, w4.heap.size + 1 ≤ lo ∧ OwnS lo w5.heap.size w5 (.slice GA l.length Gc) l := ⟨_, by simp, og⟩
  have KX := Lib.hid kx
  have OG := Lib.hid og
  replace OX := Lib.hid (OX.out.later bb)
  replace BX := Lib.hid (below_step BX.out bb)
  have HS := Lib.hid (show w4.heap.size + 1 ≤ lo ∧ w4.heap.size ≤ w5.heap.size ∧ wX.heap.size ≤ w4.heap.size from ⟨hlo, bb.size, HSX.out⟩)
  clear kx og bb hlo
  go_wp2_with fail
  refine (eqStringS_any l l GA UA Gc Uc _ OG.out.now.2 OG.out.now.1 (Kd.C_below IU.out.2 BX.out) IU.out.1).mono ?_
  rintro e w6 ⟨rfl, bb⟩
  replace KX := Lib.hid (blk_below KX.out bb)
  replace OX := Lib.hid (OX.out.later bb)
  replace OG := Lib.hid (OwnS.later OG.out bb)
  replace BX := Lib.hid (below_step BX.out bb)
  clear bb
  rw [decide_eq_true (show l = l from rfl)]
  obtain ⟨p0, p1, p2, p3, p4⟩ := fm_cells (blk_below KA.out BX.out)
  obtain ⟨q0, q1, q2, q3, q4⟩ := fm_cells KX.out
  go_wp2_with fail
  go_region_held3 (fun W => W.cell? ⟨w.heap.size, 0, none⟩ = some (.int .i64 x.f0) ∧ W.cell? ⟨w.heap.size, 1, none⟩ = some (.string x.f1) ∧ W.cell? ⟨w.heap.size, 2, none⟩ = some (.int .i64 x.f2) ∧ W.cell? ⟨w.heap.size, 3, none⟩ = some (.slice A3 x.f3.length Ac3) ∧ W.cell? ⟨w.heap.size, 4, none⟩ = some (.slice A4 x.f4.length Ac4) ∧ W.cell? ⟨w4.heap.size, 0, none⟩ = some (.int .i64 x.f0) ∧ W.cell? ⟨w4.heap.size, 1, none⟩ = some (.string x.f1) ∧ W.cell? ⟨w4.heap.size, 2, none⟩ = some (.int .i64 x.f2) ∧ W.cell? ⟨w4.heap.size, 3, none⟩ = some (.slice X3 x.f3.length Xc3) ∧ W.cell? ⟨w4.heap.size, 4, none⟩ = some (.slice X4 x.f4.length Xc4)) (first | go_keep | exact keepTen (below_step (Below.refl _ _).drew hba) ⟨p0, p1, p2, p3, p4, q0, q1, q2, q3, q4⟩ | exact keepTen (below_step (below_step (Below.refl _ _).drew hba) hbs) ⟨p0, p1, p2, p3, p4, q0, q1, q2, q3, q4⟩)
    ((first
      | (go_at_call 16; refine (toFormO x A3 Ac3 A4 Ac4 _ (HI.out.below (below_step BW.out BX.out).drew) hq).mono ?_; rintro e wa ⟨Y3, Yc3, Y4, Yc4, fy, rfl, oy, hba⟩)
      | (go_at_call 18; refine (eqForm_any x x _ _ _ _ _ _ _ _ _ (OX.out.now.below (below_step (Below.refl _ _).drew hba)) oy.now).mono ?_; rintro e ws ⟨rfl, hbs⟩)))
  have bb := below_step (below_step (Below.refl _ _).drew hba) hbs
  clear p0 p1 p2 p3 p4 q0 q1 q2 q3 q4
  replace KX := Lib.hid (blk_below KX.out bb)
  replace OX := Lib.hid (OX.out.later bb)
  replace OG := Lib.hid (OwnS.later OG.out bb)
  replace BX := Lib.hid (below_step BX.out bb)
  clear bb hba hbs oy
  rw [eqB_self]
  obtain ⟨p0, p1, p2, p3, p4⟩ := fm_cells KX.out
  go_wp2_with fail
  clear p0 p1 p2 p3 p4
  refine (markForm_own 1 OX.out (by omega) (by omega)).mono ?_
  rintro e w8 ⟨rfl, _, hm⟩
  replace BX := Lib.hid (BX.out.trans (hm.below BX.out.size (Nat.le_refl _)))
  replace OG := Lib.hid (Mrk.ownS hm OG.out (.inl (by have := HS.out; omega)))
  clear hm OX KX
  have hk : decide ((1 : Int) + (x.cnt : Int) < 0) = false := decide_eq_false (by omega)
  go_wp2_with fail
  refine (eqStringS_any l l GA UA Gc Uc _ OG.out.now.2 OG.out.now.1 (Kd.C_below IU.out.2 BX.out) IU.out.1).mono ?_
  rintro e w9 ⟨rfl, bb⟩
  replace OG := Lib.hid (OwnS.later OG.out bb)
  replace BX := Lib.hid (below_step BX.out bb)
  clear bb
  rw [decide_eq_true (show l = l from rfl)]
  go_wp2_with fail
  refine (markStringS_own 1 OG.out (by omega) (by have := HZT.out.2 hq; omega)).mono ?_
  rintro e w10 ⟨rfl, om, hm⟩
  have OM := Lib.hid om
  replace BX := Lib.hid (BX.out.trans (hm.below BX.out.size (by have := HS.out; omega)))
  clear hm om OG
  have hk2 : decide ((1 : Int) + (l.length : Int) < 0) = false := decide_eq_false (by omega)
  have hk3 : (((1 : Int) + (l.length : Int)) != (1 + (l.length : Int))) = false := by simp
  go_wp2_with fail
  refine (heldStringS_own 1 OM.out (by omega) (by have := HZT.out.2 hq; omega)).mono ?_
  rintro e w11 ⟨rfl, bb⟩
  replace OM := Lib.hid (OM.out.move_ bb)
  replace BX := Lib.hid (below_step BX.out bb)
  clear bb
  obtain ⟨p0, p1, p2, p3, p4⟩ := fm_cells (blk_below KA.out BX.out)
  go_wp2_with fail
  clear p0 p1 p2 p3 p4
  refine (toFormO x A3 Ac3 A4 Ac4 w11 (HI.out.below (below_step BW.out BX.out)) hq).mono ?_
  rintro e w12 ⟨Q3, Qc3, Q4, Qc4, fq, rfl, o, bb⟩
  have IQ := Lib.hid o.now
  replace OM := Lib.hid (OM.out.move_ bb)
  replace BX := Lib.hid (below_step BX.out bb)
  clear o bb
  go_wp2_with fail
  refine (implNmO HZT.out.1 Q3 Qc3 Q4 Qc4 w12 IQ.out hq).mono ?_
  rintro e w13 ⟨HA, Hc, rfl, o, bb⟩
  have IH := Lib.hid o.now
  clear IQ
  replace OM := Lib.hid (OM.out.move_ bb)
  replace BX := Lib.hid (below_step BX.out bb)
  clear o bb
  go_wp2_with fail
  refine (eqStringS_any l l HA UA Hc Uc _ IH.out.2 IH.out.1 (Kd.C_below IU.out.2 BX.out) IU.out.1).mono ?_
  rintro e w14 ⟨rfl, bb⟩
  replace OM := Lib.hid (OM.out.move_ bb)
  replace BX := Lib.hid (below_step BX.out bb)
  clear bb IH
  rw [decide_eq_true (show l = l from rfl)]
  go_wp2_with fail
  refine (heldStringS_own 1 OM.out (by omega) (by have := HZT.out.2 hq; omega)).mono ?_
  rintro e w15 ⟨rfl, bb⟩
  replace OM := Lib.hid (OM.out.move_ bb)
  replace BX := Lib.hid (below_step BX.out bb)
  clear bb
  go_wp2_with fail
  go_ret
  exact ⟨rfl, below_step BW.out BX.out⟩
end Go.Proofs.Ytnaefjilcabkoaa
end
section
namespace Go.Proofs.Ytnaefjilcabkoaa.fnExactNamesOf
open Go.ChangeShapes Go.WideShapes Go.ChangeAt Go.RowKit Go.Proofs.Ytnaefjilcabkoaa
open Go.ChangeMaps (open_string shut_string)
set_option linter.unusedVariables false
theorem own : ownKnob Try.prog.godebug = none := by kernel_rfl
theorem laidOut : laidOutB Try.prog = true := by kernel_rfl
set_option maxRecDepth 100000 in
theorem lifted (os : Os) (started : os.Started) (H : Type) (enc : TypeId × Value → H) :
    ReturnsInHanded {} Try.checked os 4 .any (Rows.fnExactNamesOfSpec.pre6 enc Try.prog Try.f4 Rows.fnExactNamesOfRow.domain false) (Rows.fnExactNamesOfSpec.post enc Try.prog Try.f4 false true false false) := by
  refine returnsInHanded_of_change_sized (C := Try.checked) own started (by kernel_rfl) Try.func4
    (ChangeSpec.witness6 (enc := enc) (C := Try.checked) false ⟨#[], #[.agg #[.int .i64 0, .string ByteArray.empty, .int .i64 0, .slice none 0 0, .slice none 0 0]], []⟩ 8 (by kernel_rfl) (by kernel_rfl) (by kernel_rfl) (by kernel_rfl)) ?_
  intro W base args ds gs before hval0 hW hcnd hsz0 _
  have hsz : (DataW.weightsEach Try.prog (Try.f4.params.toList ++ Rows.fnExactNamesOfSpec.plain.varTypes Try.prog) (ds ++ gs)).all (· ≤ reachBytes) = true := hsz0
  have hval : ∀ (j : Nat) t v, Try.f4.params[j]? = some t → args[j]? = some v → Value.okWide Try.prog W .any base t v := hval0
  have hW' := hW
  obtain ⟨p, q, hA0, hV, rfl, hfz, hnd⟩ := hW
  have hA : DataW.TrodAll enc Try.prog W 0 (fun _ => true) true Try.f4.params.toList args.toList ds p := hA0
  rw [Try.params4] at hA hval hsz
  obtain ⟨v0, vs0, d0, ds0, p0, q0, hargs, rfl, rfl, h0, r0⟩ := trodAll_cons hA
  obtain ⟨rfl, rfl, rfl⟩ := trodAll_nil r0
  obtain rfl : args = #[v0] := by cases args; simp_all
  obtain ⟨rfl, rfl⟩ := trodVars_none hV
  have k0 := h0
  have lt0 : ∀ x ∈ p0, x.block < W.heap.size := by obtain ⟨m, hm⟩ := k0; exact DataW.trod_lt m _ _ _ hm
  obtain ⟨x0, A0, c0, B0, e0, rfl, i0, z0⟩ := open_form (hval 0 25 v0 rfl rfl) h0
  clear hA0 hval0 hsz0 hsz
  refine (fnExactNamesOf_walk x0 A0 c0 B0 e0 W i0 z0).mono fun e W' ⟨he, bel⟩ => ?_
  subst he
  exact ⟨_, rfl, _, _, _, [], _, [], hW', trodAll_mk1 (shut_bool Try.underlying4 _), (trodAll_cons_mk (Below.trod laidOut (by kernel_rfl) (of_decide_eq_true (by kernel_rfl)) k0 bel lt0) trodAll_mk0), rfl, bel.frame _, fun h => by cases h⟩
set_option maxRecDepth 100000 in
theorem closed : joinedFacts Try.prog 4 Try.f4 Rows.fnExactNamesOfSpec Rows.fnExactNamesOfRow = true := by
  unfold joinedFacts
  refine Bool.and_eq_true_iff.2 ⟨Bool.and_eq_true_iff.2 ⟨Bool.and_eq_true_iff.2 ⟨Bool.and_eq_true_iff.2 ⟨Bool.and_eq_true_iff.2 ⟨Bool.and_eq_true_iff.2 ⟨Bool.and_eq_true_iff.2 ⟨?_, mayEnter_yes⟩, (congrArg (fun b => Rows.fnExactNamesOfRow.lifted == b) liftsFinal_no).trans (by kernel_rfl)⟩, (congrArg (fun b => b == some Rows.fnExactNamesOfRow.make) make_cut).trans (by kernel_rfl)⟩, ?_⟩, ?_⟩, ?_⟩, ?_⟩
  all_goals kernel_rfl
theorem over : Rows.fnExactNamesOfRow.holds Try.pinned (OpenSpec.ofChange Rows.fnExactNamesOfSpec) :=
  OpenClaim.holds_of_wide 4 Try.f4 rfl rfl rfl rfl rfl rfl rfl ⟨rfl, rfl, rfl, rfl, rfl⟩ rfl rfl rfl rfl rfl (by kernel_rfl) Try.func4 closed
    (of_decide_eq_true (by kernel_rfl)) (by unfold Func.isWrapper; first | (rw [if_pos (by decide +kernel)]; kernel_rfl) | (rw [if_neg (by decide +kernel)]; exact ⟨rfl, rfl⟩))
    (fun os started H enc _ => lifted os started H enc)
end Go.Proofs.Ytnaefjilcabkoaa.fnExactNamesOf
namespace Go.Proofs.Ytnaefjilcabkoaa
/-- The row. -/
theorem fnExactNamesOf_holds : Rows.FnExactNamesOfSaid := fnExactNamesOf.over
#print axioms fnExactNamesOf_holds
end Go.Proofs.Ytnaefjilcabkoaa
end
