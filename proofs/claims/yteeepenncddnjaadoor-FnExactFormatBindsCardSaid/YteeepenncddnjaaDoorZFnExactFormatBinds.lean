/- The program's FormatBinds prints what the reference's prints, and leaves its argument alone. For every input the law FnExactFormatBinds returns true, and leaves its input alone, where the table of powers of ten is laid. -/
import Derived.Below
import Derived.ChangeOld
import Derived.JoinedOf
import Derived.KernelRfl
import Derived.LaidMore
import Derived.OpenShut
import Derived.ProofKit
import Derived.RowKit3
import Derived.SevenTiedAt
import Derived.ShutString
import Derived.SizedLaws
import Derived.Test.YteeepenncddnjaaDoorCards
import Derived.Test.YteeepenncddnjaaDoorRows
import Derived.Test.YteeepenncddnjaaDoorTie
import Derived.WalkKit
import Derived.Test.YteeepenncddnjaaDoorKc1
import Derived.Test.YteeepenncddnjaaDoorKc3
import Derived.Test.YteeepenncddnjaaDoorKc4
section
namespace Go.Proofs.YteeepenncddnjaaDoor
open Go.RowKit Go.Proofs.YteeepenncddnjaaDoorW.PrintWords Go.Proofs.YteeepenncddnjaaDoorW.PrintLast Go.Proofs.YteeepenncddnjaaDoorW.PrintMore
set_option linter.unusedVariables false
set_option linter.unusedSimpArgs false
set_option maxHeartbeats 4000000 in
set_option maxRecDepth 100000 in
theorem fnExactFormatBinds_walk (l : List Bd) (A : Option Addr) (c : Nat) (w : World) (hc : l.length ≤ c) (hr : kB.C w A l.length l) (hl : ∀ b, b ∈ l → BdSmall b) (htab : TabP w) :
    Calls Tryd.prog 7 #[.slice A l.length c] w fun e w' => e = .returned (.bool true) ∧ Below w.heap.size w w' := by
  have hmax := hr.2.1
  have HZ := Lib.hid (szB_any l A c w hr hc hl (by omega))
  have HI := Lib.hid (fun W (hb : Below w.heap.size w W) => Kd.C_below hr hb)
  have hnm : ∀ b, b ∈ l → l.length + totB l ≤ 1048576 → b.f0.size ≤ 140737488351232 := fun b hb h => by have := totB_mem hb; omega
  have HN := Lib.hid hnm
  have HTB := Lib.hid (fun W (hb : Below w.heap.size w W) => htab.below hb)
  clear hr hl hnm htab
  go_enter Tryd.func7, Tryd.ntmps7
  go_wp2_with fail
  refine HZ.out.mono ?_
  rintro e w1 ⟨rfl, b1⟩
  have BW := Lib.hid b1
  clear b1 HZ
  by_cases hq : l.length + totB l ≤ 1048576
  rotate_left
  · rw [szR_no (by omega)]
    have hd : decide ((-1 : Int) < 0) = true := by simp
    go_wp2_with fail
    go_ret
    exact ⟨rfl, BW.out⟩
  rw [szR_yes (by omega)]
  have hd : decide ((1048576 : Int) - ((l.length + totB l : Nat) : Int) < 0) = false := decide_eq_false (by omega)
  go_wp2_with fail
  refine (toB_any l A c w1 (HI.out _ BW.out) hc (smB_of hq)).mono ?_
  rintro e w2 ⟨PA, Pc, rfl, hpc, hP, bb⟩
  have IP := Lib.hid (And.intro hpc hP)
  replace BW := Lib.hid (below_step BW.out bb)
  clear bb hpc hP
  go_wp2_with fail
  refine (specFormatB_any l PA Pc w2 IP.out.2 IP.out.1 (smB_of hq)).mono ?_
  rintro e w3 ⟨rfl, bb⟩
  replace BW := Lib.hid (below_step BW.out bb)
  clear bb IP
  go_wp2_with fail
  refine (toB_any l A c w3 (HI.out _ BW.out) hc (smB_of hq)).mono ?_
  rintro e w4 ⟨XA, Xc, rfl, hxc, hX, bb⟩
  have IX := Lib.hid (And.intro hxc hX)
  replace BW := Lib.hid (below_step BW.out bb)
  clear bb hxc hX
  go_wp2_with fail
  refine (implFormatB_any l XA Xc w4 IX.out.2 IX.out.1 (smB_of hq) (HTB.out _ BW.out)).mono ?_
  rintro e w5 ⟨rfl, bb⟩
  have IY := Lib.hid (And.intro IX.out.1 (Kd.C_below IX.out.2 bb))
  replace BW := Lib.hid (below_step BW.out bb)
  clear bb IX
  have hne2 : ((fmtB l).toList == (fmtB l).toList) = true := beq_self_eq_true _
  go_wp2_with fail
  refine (toB_any l A c w5 (HI.out _ BW.out) hc (smB_of hq)).mono ?_
  rintro e w6 ⟨QA, Qc, rfl, hqc, hQ, bb⟩
  have IZ := Lib.hid (And.intro IY.out.1 (Kd.C_below IY.out.2 bb))
  have IQ := Lib.hid (And.intro hqc hQ)
  replace BW := Lib.hid (below_step BW.out bb)
  clear bb hqc hQ IY
  go_wp2_with fail
  refine (eqB_any l XA Xc QA Qc w6 IZ.out.2 IZ.out.1 IQ.out.2 IQ.out.1 (smB_of hq)).mono ?_
  rintro e w7 ⟨rfl, bb⟩
  replace BW := Lib.hid (below_step BW.out bb)
  clear bb IZ IQ
  go_wp2_with fail
  go_ret
  exact ⟨rfl, BW.out⟩
end Go.Proofs.YteeepenncddnjaaDoor
end
section
namespace Go.Proofs.YteeepenncddnjaaDoor.fnExactFormatBinds
open Go.ChangeShapes Go.WideShapes Go.ChangeAt Go.RowKit Go.Proofs.YteeepenncddnjaaDoor
open Go.ChangeMaps (open_string shut_string)
set_option linter.unusedVariables false
theorem own : ownKnob Tryd.prog.godebug = none := by kernel_rfl
theorem laidOut : laidOutB Tryd.prog = true := by kernel_rfl
set_option maxRecDepth 100000 in
theorem lifted (os : Os) (started : os.Started) (H : Type) (enc : TypeId × Value → H) :
    ReturnsInHanded {} Tryd.checked os 7 .any (fun w args => (Rows.fnExactFormatBindsSpec.pre enc Tryd.prog Tryd.f7 [] false w args ∧ laidMetH Tryd.prog laid3 w) ∧ sizedMet enc Tryd.prog Tryd.f7 (OpenSpec.ofChange Rows.fnExactFormatBindsSpec) false w args) (Rows.fnExactFormatBindsSpec.post enc Tryd.prog Tryd.f7 false true false false) := by
  refine returnsInHanded_of_change_and (C := Tryd.checked) (X := fun w _ => laidMetH Tryd.prog laid3 w) (fun _ _ _ hh h => h.of_heap hh) own started (by kernel_rfl) Tryd.func7
    (ChangeSpec.witness_shaped (enc := enc) (C := Tryd.checked) (os := os) (X := fun w _ => laidMetH Tryd.prog laid3 w) false (World.doorLaid Tryd.prog 400 os) #[.slice none 0 0] 8 rfl (World.shaped_of_RefB (by kernel_rfl) (by kernel_rfl)) (by kernel_rfl) (by kernel_rfl) (by kernel_rfl) (door_met os _)) ?_
  intro W base args ds gs before hval0 hW hcnd hsz0 hL _
  have hsz : (DataW.weightsEach Tryd.prog (Tryd.f7.params.toList ++ Rows.fnExactFormatBindsSpec.plain.varTypes Tryd.prog) (ds ++ gs)).all (· ≤ reachBytes) = true := hsz0
  have hval : ∀ (j : Nat) t v, Tryd.f7.params[j]? = some t → args[j]? = some v → Value.okWide Tryd.prog W .any base t v := hval0
  have hW' := hW
  obtain ⟨p, q, hA0, hV, rfl, hfz, hnd⟩ := hW
  have hA : DataW.TrodAll enc Tryd.prog W 0 (fun _ => true) true Tryd.f7.params.toList args.toList ds p := hA0
  rw [Tryd.params7] at hA hval hsz
  obtain ⟨v0, vs0, d0, ds0, p0, q0, hargs, rfl, rfl, h0, r0⟩ := trodAll_cons hA
  obtain ⟨rfl, rfl, rfl⟩ := trodAll_nil r0
  obtain rfl : args = #[v0] := by cases args; simp_all
  obtain ⟨rfl, rfl⟩ := trodVars_none hV
  have k0 := h0
  have lt0 : ∀ x ∈ p0, x.block < W.heap.size := by obtain ⟨m, hm⟩ := k0; exact DataW.trod_lt m _ _ _ hm
  obtain ⟨x0, A0, c0, rfl, hc0, hr0, z0⟩ := open_binds (hval 0 45 v0 rfl rfl) h0
  clear hA0 hval0 hsz0 hsz
  refine (fnExactFormatBinds_walk x0 A0 c0 W hc0 hr0 z0 (tab_of hL)).mono fun e W' ⟨he, bel⟩ => ?_
  subst he
  exact ⟨_, rfl, _, _, _, [], _, [], hW', trodAll_mk1 (shut_bool Tryd.underlying4 _), (trodAll_cons_mk (Below.trod laidOut (by kernel_rfl) (of_decide_eq_true (by kernel_rfl)) k0 bel lt0) trodAll_mk0), rfl, bel.frame _, fun h => by cases h⟩
set_option maxRecDepth 100000 in
theorem closed : joinedFacts Tryd.prog 7 Tryd.f7 Rows.fnExactFormatBindsSpec Rows.fnExactFormatBindsRow = true := by
  unfold joinedFacts
  refine Bool.and_eq_true_iff.2 ⟨Bool.and_eq_true_iff.2 ⟨Bool.and_eq_true_iff.2 ⟨Bool.and_eq_true_iff.2 ⟨Bool.and_eq_true_iff.2 ⟨Bool.and_eq_true_iff.2 ⟨Bool.and_eq_true_iff.2 ⟨?_, mayEnter_yes⟩, (congrArg (fun b => Rows.fnExactFormatBindsRow.lifted == b) liftsFinal_no).trans (by kernel_rfl)⟩, (congrArg (fun b => b == some Rows.fnExactFormatBindsRow.make) make_cut).trans (by kernel_rfl)⟩, ?_⟩, ?_⟩, ?_⟩, ?_⟩
  all_goals kernel_rfl
theorem over : Rows.fnExactFormatBindsRow.holds Tryd.pinned (OpenSpec.ofChange Rows.fnExactFormatBindsSpec) :=
  OpenClaim.holds_of_wide 7 Tryd.f7 rfl rfl rfl rfl rfl rfl rfl ⟨rfl, rfl, rfl, rfl, rfl⟩ rfl rfl rfl rfl rfl (by kernel_rfl) Tryd.func7 closed
    (of_decide_eq_true (by kernel_rfl)) (by unfold Func.isWrapper; first | (rw [if_pos (by decide +kernel)]; kernel_rfl) | (rw [if_neg (by decide +kernel)]; exact ⟨rfl, rfl⟩))
    (fun os started H enc _ => lifted os started H enc)
end Go.Proofs.YteeepenncddnjaaDoor.fnExactFormatBinds
namespace Go.Proofs.YteeepenncddnjaaDoor
/-- The row. -/
theorem fnExactFormatBinds_row : Rows.FnExactFormatBindsSaid := fnExactFormatBinds.over
theorem fnExactFormatBinds_tie3 : Rows.fnExactFormatBindsRow.laidByTextAt .later Tryd.pinned [.data, .data, .data] true := OpenClaim.laidByTextAt_later rfl rfl tie (by kernel_rfl)
/-- The tied card. -/
theorem fnExactFormatBinds_holds : Rows.FnExactFormatBindsCardSaid :=
  Claim7.holds_tied_plain_at .later [] [.data, .data, .data] true (true, "d6c602bbc3bef5f822d3e324f773950865682dcf61708e441e970ce1caecdbd3") false
    fnExactFormatBinds_row (fun _ h => by cases h) (by kernel_rfl) (fun _ h => by cases h) fnExactFormatBinds_tie3 rfl ⟨rfl, rfl⟩ (by kernel_rfl) rfl
    (fun f fn hf hfn => by
      obtain rfl : f = 7 := Option.some.inj ((show Tryd.prog.funcNamed "loop.example/macroexpander/laws.FnExactFormatBinds" = some 7 by kernel_rfl).symm.trans hf) |>.symm
      obtain rfl : fn = Tryd.f7 := (Option.some.inj (Tryd.func7.symm.trans hfn)).symm
      exact ⟨by kernel_rfl, fun j t ht => by
        rw [Tryd.params7] at ht
        have hm : t ∈ [45] := by simpa using Array.mem_of_getElem? ht
        have hall : ([45].all fun u => !Tryd.prog.wantsStandIn u) = true := by kernel_rfl
        exact (show Tryd.prog.wantsStandIn t = false by simpa using List.all_eq_true.1 hall t hm)⟩)
    (by kernel_rfl)
#print axioms fnExactFormatBinds_holds
end Go.Proofs.YteeepenncddnjaaDoor
end
