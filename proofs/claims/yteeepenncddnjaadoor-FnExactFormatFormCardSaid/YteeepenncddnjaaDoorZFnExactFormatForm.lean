/- The program's FormatForm prints what the reference's prints, and leaves its argument alone. For every input the law FnExactFormatForm returns true, and leaves its input alone, where the table of powers of ten is laid. -/
import Derived.Below
import Derived.ChangeOld
import Derived.Deep.RegionHeld3
import Derived.JoinedOf
import Derived.KernelRfl
import Derived.LaidMore
import Derived.OpenShut
import Derived.ProofKit
import Derived.RowKit3
import Derived.SevenTiedAt
import Derived.ShutString
import Derived.SizedLaws
import Derived.Test.YteeepenncddnjaaDoorCards
import Derived.Test.YteeepenncddnjaaDoorRows
import Derived.Test.YteeepenncddnjaaDoorTie
import Derived.WalkKit
import Derived.Test.YteeepenncddnjaaDoorKa1
import Derived.Test.YteeepenncddnjaaDoorKa2
section
namespace Go.Proofs.YteeepenncddnjaaDoor
open Go.RowKit Go.Proofs.YteeepenncddnjaaDoorW.PrintWords Go.Proofs.YteeepenncddnjaaDoorW.PrintLast Go.Proofs.YteeepenncddnjaaDoorW.PrintMore
set_option linter.unusedVariables false
theorem RetF.open {w w1 : World} {x : Fm} {e : Ending} (h : RetF w x e w1) : ∃ A3 c3 A4 c4, e = .returned (.agg #[.int .i64 x.f0, .string x.f1, .int .i64 x.f2, .slice A3 x.f3.length c3, .slice A4 x.f4.length c4]) ∧ FmIn w1 x A3 c3 A4 c4 ∧ Below w.heap.size w w1 := by
  obtain ⟨v3, v4, rfl, ⟨fp, ht, _⟩, hb⟩ := h
  obtain ⟨A3, c3, A4, c4, rfl, rfl, hin⟩ := ht.In
  exact ⟨A3, c3, A4, c4, rfl, hin, hb⟩
set_option maxHeartbeats 4000000 in
theorem fnExactFormatForm_walk (x : Fm) (A3 : Option Addr) (c3 : Nat) (A4 : Option Addr) (c4 : Nat) (w : World) (hin : FmIn w x A3 c3 A4 c4) (hnm : NmSmall x) (htab : TabP w) :
    Calls Tryd.prog 6 #[.agg #[.int .i64 x.f0, .string x.f1, .int .i64 x.f2, .slice A3 x.f3.length c3, .slice A4 x.f4.length c4]] w fun e w' => e = .returned (.bool true) ∧ Below w.heap.size w w' := by
  have HZ := Lib.hid (fun W hb => szForm_any x A3 c3 A4 c4 1048576 W (hin.below hb) hnm (by omega) (by omega))
  have HI := Lib.hid hin
  have HTB := Lib.hid (fun W (hb : Below w.heap.size w W) => htab.below hb)
  clear hin htab
  go_enter Tryd.func6, Tryd.ntmps6
  go_wp2_with fail
  refine (HZ.out _ (below_new _ _)).mono ?_
  rintro e w1 ⟨rfl, hb1⟩
  obtain ⟨k1, b1⟩ := one_new hb1
  clear hb1
  obtain ⟨p0, p1, p2, p3, p4⟩ := fm_cells k1
  by_cases hq : x.tot ≤ 1048576
  · rw [szR_yes (by omega)]
    have hd : decide ((1048576 : Int) - (x.tot : Int) < 0) = false := decide_eq_false (by omega)
    have HT := Lib.hid (fun W hb => toForm_any x A3 c3 A4 c4 W (HI.out.below hb) hq)
    go_wp2_with fail
    refine (HT.out _ b1).mono ?_
    intro e w2 hr
    obtain ⟨B3, d3, B4, d4, rfl, i2, hb2⟩ := hr.open
    have k2 := blk_below k1 hb2
    have b2 := below_step b1 hb2
    clear hr hb2 p0 p1 p2 p3 p4 k1 b1
    obtain ⟨p0, p1, p2, p3, p4⟩ := fm_cells k2
    have HS := Lib.hid (specFormat_any x B3 d3 B4 d4 _ i2 hq)
    clear i2
    go_wp2_with fail
    refine HS.out.mono ?_
    rintro e w3 ⟨rfl, hb3⟩
    generalize hE : fmtT x = E
    have HE0 := Lib.hid hE
    clear hE
    have k3 := blk_below k2 hb3
    have b3 := below_step b2 hb3
    clear hb3 k2 b2 p0 p1 p2 p3 p4 HS
    obtain ⟨p0, p1, p2, p3, p4⟩ := fm_cells k3
    go_wp2_with fail
    refine (HT.out _ b3).mono ?_
    intro e w4 hr
    obtain ⟨C3, f3, C4, f4, rfl, i4, hb4⟩ := hr.open
    have k4 := blk_below k3 hb4
    have b4 := below_step b3 hb4
    clear hr hb4 k3 b3 p0 p1 p2 p3 p4
    have HS := Lib.hid (fun W hb => implFormat_any x C3 f3 C4 f4 W (i4.below hb) hq (HTB.out W (below_step b4 hb)))
    have H4 := Lib.hid i4
    clear i4
    go_wp2_with fail
    refine (HS.out _ (below_new _ _)).mono ?_
    rintro e w5 ⟨rfl, hb5⟩
    rw [HE0.out]
    have k5 := blk_below (blk_below k4 (below_new _ _)) hb5
    obtain ⟨l5, c5⟩ := one_new hb5
    have b5 := below_step b4 c5
    clear hb5 k4
    obtain ⟨p0, p1, p2, p3, p4⟩ := fm_cells k5
    obtain ⟨q0, q1, q2, q3, q4⟩ := fm_cells l5
    have hne2 : (E.toList == E.toList) = true := beq_self_eq_true _
    have HE := Lib.hid (fun W E3 E4 g3 g4 hb h6 => eqForm_any x x C3 f3 C4 f4 E3 g3 E4 g4 W ((H4.out.below c5).below hb) h6)
    have B5 := Lib.hid b5
    clear b4 c5 b5
    go_wp2_with fail
    go_region_held3 (fun w' => w'.cell? ⟨w.heap.size, 0, none⟩ = some (.int .i64 x.f0) ∧ w'.cell? ⟨w.heap.size, 1, none⟩ = some (.string x.f1) ∧ w'.cell? ⟨w.heap.size, 2, none⟩ = some (.int .i64 x.f2) ∧ w'.cell? ⟨w.heap.size, 3, none⟩ = some (.slice A3 x.f3.length c3) ∧ w'.cell? ⟨w.heap.size, 4, none⟩ = some (.slice A4 x.f4.length c4) ∧ w'.cell? ⟨w4.heap.size, 0, none⟩ = some (.int .i64 x.f0) ∧ w'.cell? ⟨w4.heap.size, 1, none⟩ = some (.string x.f1) ∧ w'.cell? ⟨w4.heap.size, 2, none⟩ = some (.int .i64 x.f2) ∧ w'.cell? ⟨w4.heap.size, 3, none⟩ = some (.slice C3 x.f3.length f3) ∧ w'.cell? ⟨w4.heap.size, 4, none⟩ = some (.slice C4 x.f4.length f4)) (first | go_keep | exact ⟨ck hb6 p0, ck hb6 p1, ck hb6 p2, ck hb6 p3, ck hb6 p4, ck hb6 q0, ck hb6 q1, ck hb6 q2, ck hb6 q3, ck hb6 q4⟩ | exact ⟨ck0 hb7 (ck hb6 p0), ck0 hb7 (ck hb6 p1), ck0 hb7 (ck hb6 p2), ck0 hb7 (ck hb6 p3), ck0 hb7 (ck hb6 p4), ck0 hb7 (ck hb6 q0), ck0 hb7 (ck hb6 q1), ck0 hb7 (ck hb6 q2), ck0 hb7 (ck hb6 q3), ck0 hb7 (ck hb6 q4)⟩)
      ((first
        | (go_at_call 23; refine (HT.out _ B5.out.drew).mono ?_; intro e w6 hr; obtain ⟨E3, g3, E4, g4, rfl, i6, hb6⟩ := hr.open)
        | (go_at_call 24; refine (HE.out _ _ _ _ _ (below_step (Below.refl _ _).drew hb6) i6).mono ?_; rintro e w7 ⟨rfl, hb7⟩)))
    rw [eqB_self]
    go_wp2_with fail
    go_ret
    exact ⟨rfl, below_step B5.out (below_step (below_step (Below.refl _ _).drew hb6) hb7)⟩
  · rw [szR_no (by omega)]
    have hd : decide ((-1 : Int) < 0) = true := by simp
    go_wp2_with fail
    go_ret
    exact ⟨rfl, b1⟩
end Go.Proofs.YteeepenncddnjaaDoor
end
section
namespace Go.Proofs.YteeepenncddnjaaDoor.fnExactFormatForm
open Go.ChangeShapes Go.WideShapes Go.ChangeAt Go.RowKit Go.Proofs.YteeepenncddnjaaDoor
open Go.ChangeMaps (open_string shut_string)
set_option linter.unusedVariables false
theorem own : ownKnob Tryd.prog.godebug = none := by kernel_rfl
theorem laidOut : laidOutB Tryd.prog = true := by kernel_rfl
set_option maxRecDepth 100000 in
theorem lifted (os : Os) (started : os.Started) (H : Type) (enc : TypeId × Value → H) :
    ReturnsInHanded {} Tryd.checked os 6 .any (fun w args => (Rows.fnExactFormatFormSpec.pre enc Tryd.prog Tryd.f6 [] false w args ∧ laidMetH Tryd.prog laid3 w) ∧ sizedMet enc Tryd.prog Tryd.f6 (OpenSpec.ofChange Rows.fnExactFormatFormSpec) false w args) (Rows.fnExactFormatFormSpec.post enc Tryd.prog Tryd.f6 false true false false) := by
  refine returnsInHanded_of_change_and (C := Tryd.checked) (X := fun w _ => laidMetH Tryd.prog laid3 w) (fun _ _ _ hh h => h.of_heap hh) own started (by kernel_rfl) Tryd.func6
    (ChangeSpec.witness_shaped (enc := enc) (C := Tryd.checked) (os := os) (X := fun w _ => laidMetH Tryd.prog laid3 w) false (World.doorLaid Tryd.prog 400 os) #[.agg #[.int .i64 0, .string ByteArray.empty, .int .i64 0, .slice none 0 0, .slice none 0 0]] 8 rfl (World.shaped_of_RefB (by kernel_rfl) (by kernel_rfl)) (by kernel_rfl) (by kernel_rfl) (by kernel_rfl) (door_met os _)) ?_
  intro W base args ds gs before hval0 hW hcnd hsz0 hL _
  have hsz : (DataW.weightsEach Tryd.prog (Tryd.f6.params.toList ++ Rows.fnExactFormatFormSpec.plain.varTypes Tryd.prog) (ds ++ gs)).all (· ≤ reachBytes) = true := hsz0
  have hval : ∀ (j : Nat) t v, Tryd.f6.params[j]? = some t → args[j]? = some v → Value.okWide Tryd.prog W .any base t v := hval0
  have hW' := hW
  obtain ⟨p, q, hA0, hV, rfl, hfz, hnd⟩ := hW
  have hA : DataW.TrodAll enc Tryd.prog W 0 (fun _ => true) true Tryd.f6.params.toList args.toList ds p := hA0
  rw [Tryd.params6] at hA hval hsz
  obtain ⟨v0, vs0, d0, ds0, p0, q0, hargs, rfl, rfl, h0, r0⟩ := trodAll_cons hA
  obtain ⟨rfl, rfl, rfl⟩ := trodAll_nil r0
  obtain rfl : args = #[v0] := by cases args; simp_all
  obtain ⟨rfl, rfl⟩ := trodVars_none hV
  have k0 := h0
  have lt0 : ∀ x ∈ p0, x.block < W.heap.size := by obtain ⟨m, hm⟩ := k0; exact DataW.trod_lt m _ _ _ hm
  obtain ⟨x0, A0, c0, B0, e0, rfl, i0, z0⟩ := open_form (hval 0 41 v0 rfl rfl) h0
  clear hA0 hval0 hsz0 hsz
  refine (fnExactFormatForm_walk x0 A0 c0 B0 e0 W i0 z0 (tab_of hL)).mono fun e W' ⟨he, bel⟩ => ?_
  subst he
  exact ⟨_, rfl, _, _, _, [], _, [], hW', trodAll_mk1 (shut_bool Tryd.underlying4 _), (trodAll_cons_mk (Below.trod laidOut (by kernel_rfl) (of_decide_eq_true (by kernel_rfl)) k0 bel lt0) trodAll_mk0), rfl, bel.frame _, fun h => by cases h⟩
set_option maxRecDepth 100000 in
theorem closed : joinedFacts Tryd.prog 6 Tryd.f6 Rows.fnExactFormatFormSpec Rows.fnExactFormatFormRow = true := by
  unfold joinedFacts
  refine Bool.and_eq_true_iff.2 ⟨Bool.and_eq_true_iff.2 ⟨Bool.and_eq_true_iff.2 ⟨Bool.and_eq_true_iff.2 ⟨Bool.and_eq_true_iff.2 ⟨Bool.and_eq_true_iff.2 ⟨Bool.and_eq_true_iff.2 ⟨?_, mayEnter_yes⟩, (congrArg (fun b => Rows.fnExactFormatFormRow.lifted == b) liftsFinal_no).trans (by kernel_rfl)⟩, (congrArg (fun b => b == some Rows.fnExactFormatFormRow.make) make_cut).trans (by kernel_rfl)⟩, ?_⟩, ?_⟩, ?_⟩, ?_⟩
  all_goals kernel_rfl
theorem over : Rows.fnExactFormatFormRow.holds Tryd.pinned (OpenSpec.ofChange Rows.fnExactFormatFormSpec) :=
  OpenClaim.holds_of_wide 6 Tryd.f6 rfl rfl rfl rfl rfl rfl rfl ⟨rfl, rfl, rfl, rfl, rfl⟩ rfl rfl rfl rfl rfl (by kernel_rfl) Tryd.func6 closed
    (of_decide_eq_true (by kernel_rfl)) (by unfold Func.isWrapper; first | (rw [if_pos (by decide +kernel)]; kernel_rfl) | (rw [if_neg (by decide +kernel)]; exact ⟨rfl, rfl⟩))
    (fun os started H enc _ => lifted os started H enc)
end Go.Proofs.YteeepenncddnjaaDoor.fnExactFormatForm
namespace Go.Proofs.YteeepenncddnjaaDoor
/-- The row. -/
theorem fnExactFormatForm_row : Rows.FnExactFormatFormSaid := fnExactFormatForm.over
theorem fnExactFormatForm_tie3 : Rows.fnExactFormatFormRow.laidByTextAt .later Tryd.pinned [.data, .data, .data] true := OpenClaim.laidByTextAt_later rfl rfl tie (by kernel_rfl)
/-- The tied card. -/
theorem fnExactFormatForm_holds : Rows.FnExactFormatFormCardSaid :=
  Claim7.holds_tied_plain_at .later [] [.data, .data, .data] true (true, "d6c602bbc3bef5f822d3e324f773950865682dcf61708e441e970ce1caecdbd3") false
    fnExactFormatForm_row (fun _ h => by cases h) (by kernel_rfl) (fun _ h => by cases h) fnExactFormatForm_tie3 rfl ⟨rfl, rfl⟩ (by kernel_rfl) rfl
    (fun f fn hf hfn => by
      obtain rfl : f = 6 := Option.some.inj ((show Tryd.prog.funcNamed "loop.example/macroexpander/laws.FnExactFormatForm" = some 6 by kernel_rfl).symm.trans hf) |>.symm
      obtain rfl : fn = Tryd.f6 := (Option.some.inj (Tryd.func6.symm.trans hfn)).symm
      exact ⟨by kernel_rfl, fun j t ht => by
        rw [Tryd.params6] at ht
        have hm : t ∈ [41] := by simpa using Array.mem_of_getElem? ht
        have hall : ([41].all fun u => !Tryd.prog.wantsStandIn u) = true := by kernel_rfl
        exact (show Tryd.prog.wantsStandIn t = false by simpa using List.all_eq_true.1 hall t hm)⟩)
    (by kernel_rfl)
#print axioms fnExactFormatForm_holds
end Go.Proofs.YteeepenncddnjaaDoor
end
