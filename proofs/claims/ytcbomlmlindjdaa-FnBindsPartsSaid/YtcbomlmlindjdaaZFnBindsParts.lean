/- Without its first or its last binding, a valid list is valid. For every input the law FnBindsParts returns true, and leaves its input alone. No condition. -/
import Derived.Below
import Derived.ChangeOld
import Derived.JoinedOf
import Derived.KernelRfl
import Derived.OpenShut
import Derived.ProofKit
import Derived.RowKit3
import Derived.ShutString
import Derived.SizedLaws
import Derived.Test.YtcbomlmlindjdaaRows
import Derived.WalkKit
import Derived.Test.YtcbomlmlindjdaaKa1
import Derived.Test.YtcbomlmlindjdaaKa5
import Derived.Test.YtcbomlmlindjdaaKa6
section
namespace Go.Proofs.Ytcbomlmlindjdaa
open Go.RowKit Go.Proofs.YtcbomlmlindjdaaW.PrintWords Go.Proofs.YtcbomlmlindjdaaW.PrintLast Go.Proofs.YtcbomlmlindjdaaW.PrintMore
set_option linter.unusedVariables false
set_option linter.unusedSimpArgs false
set_option maxHeartbeats 4000000 in
set_option maxRecDepth 100000 in
theorem fnBindsParts_walk (A0 : Option Addr) (c0 : Nat) (l0 : List Int) (w : World)
    (hr0 : (Kd.int .u8).C w A0 l0.length l0) (hc0 : l0.length ≤ c0) (y0 : l0.length * 1 ≤ 140737488351232) (hw0 : ∀ n ∈ l0, (Lit.int .u8 n).wf = true) :
    Calls Try.prog 3 #[.slice A0 l0.length c0] w fun e w' => e = .returned (.bool true) ∧ Below w.heap.size w w' := by
  by_cases g0 : l0.length ≤ 1048576
  rotate_left
  · have t0 : decide ((l0.length : Int) > 1048576) = true := decide_eq_true (by omega)
    have t0' : decide (1048576 < l0.length) = true := decide_eq_true (by omega)
    go_enter Try.func3, Try.ntmps3
    go_wp2_with fail
    go_ret
    exact ⟨rfl, Below.refl _ _⟩
  obtain ⟨bl, hbl, D0⟩ := dDrawBindsValid l0 (fun z hz => byteOk (hw0 z hz))
  replace D0 := Lib.hid D0
  have hsm := hbl.B (by omega)
  have hbl1 := hbl.1
  have HSM := Lib.hid hsm
  clear hsm hbl
  have t0 : decide ((l0.length : Int) > 1048576) = false := decide_eq_false (by omega)
  have t0' : decide (1048576 < l0.length) = false := decide_eq_false (by omega)
  go_enter Try.func3, Try.ntmps3
  go_wp2_with fail
  refine (D0.out A0 c0 _ hr0 hc0).mono ?_
  rintro e w1 ⟨lA, lc, rfl, hcl, hCl, b⟩
  have Ll := Lib.hid hCl
  have hlc_ := Lib.hid hcl
  clear hCl hcl
  have BW := Lib.hid b
  clear b
  rcases h1 : pB (BdsOk bl) with _ | _
  · go_wp2_with fail
    refine (implBdV h1 HSM.out _ _ _ Ll.out hlc_.out).mono ?_
    rintro e w2 ⟨rfl, b⟩
    replace Ll := Lib.hid (Kd.C_below Ll.out b)
    replace BW := Lib.hid (below_step BW.out b)
    clear b
    go_wp2_with fail
    refine (specBdV h1 HSM.out _ _ _ Ll.out hlc_.out).mono ?_
    rintro e w3 ⟨rfl, b⟩
    replace Ll := Lib.hid (Kd.C_below Ll.out b)
    replace BW := Lib.hid (below_step BW.out b)
    clear b
    go_wp2_with fail
    refine (specBdV h1 HSM.out _ _ _ Ll.out hlc_.out).mono ?_
    rintro e w4 ⟨rfl, b⟩
    replace Ll := Lib.hid (Kd.C_below Ll.out b)
    replace BW := Lib.hid (below_step BW.out b)
    clear b
    go_wp2_with fail
    go_ret
    exact ⟨rfl, by repeat (first | exact BW.out | refine below_alloc ?_ _)⟩
  · go_wp2_with fail
    refine (implBdV h1 HSM.out _ _ _ Ll.out hlc_.out).mono ?_
    rintro e w2 ⟨rfl, b⟩
    replace Ll := Lib.hid (Kd.C_below Ll.out b)
    replace BW := Lib.hid (below_step BW.out b)
    clear b
    go_wp2_with fail
    refine (specBdV h1 HSM.out _ _ _ Ll.out hlc_.out).mono ?_
    rintro e w3 ⟨rfl, b⟩
    replace Ll := Lib.hid (Kd.C_below Ll.out b)
    replace BW := Lib.hid (below_step BW.out b)
    clear b
    by_cases h0 : bl.length = 0
    · have t1 : ((bl.length : Int) == 0) = true := by simp [h0]
      have t2 : (bl.length == 0) = true := by simp [h0]
      clear h0
      go_wp2_with fail
      refine (specBdV h1 HSM.out _ _ _ Ll.out hlc_.out).mono ?_
      rintro e w4 ⟨rfl, b⟩
      replace Ll := Lib.hid (Kd.C_below Ll.out b)
      replace BW := Lib.hid (below_step BW.out b)
      clear b
      go_wp2_with fail
      go_ret
      exact ⟨rfl, by repeat (first | exact BW.out | refine below_alloc ?_ _)⟩
    · have t1 : ((bl.length : Int) == 0) = false := by simpa using h0
      have t2 : (bl.length == 0) = false := by simpa using h0
      have HOK := Lib.hid (pB_iff.1 h1)
      have h2 := pB_iff.2 (bdsOk_sub HOK.out (List.drop_sublist 1 bl))
      have h3 := pB_iff.2 (bdsOk_sub HOK.out (List.take_sublist (bl.length - 1) bl))
      have s2 : SmB (bl.drop 1) := ⟨by have := HSM.out.1; simp; omega, fun b hb => HSM.out.2 b (List.mem_of_mem_drop hb)⟩
      have s3 : SmB (bl.take (bl.length - 1)) := ⟨by have := HSM.out.1; simp; omega, fun b hb => HSM.out.2 b (List.mem_of_mem_take hb)⟩
      have q1 : (1 : Int) ≤ (bl.length : Int) := by omega
      have q2 : (bl.length : Int) ≤ (lc : Int) := by have := hlc_.out; omega
      have H2 := Lib.hid h2
      have H3 := Lib.hid h3
      have S2 := Lib.hid s2
      have S3 := Lib.hid s3
      clear h2 h3 s2 s3
      by_cases hcap : lc = 1
      · subst hcap
        have HB1 := Lib.hid (show bl.length = 1 by have := hlc_.out; omega)
        obtain ⟨ad, M1, mc, e3, z0, z1, z2, _⟩ := bd_at Ll.out 0 (by omega)
        subst e3
        have hdr := Kd.C_drop Ll.out (m := 1) (c := 1) (by omega) hlc_.out
        rw [if_pos rfl] at hdr
        have hdl : (bl.drop 1).length = bl.length - 1 := by simp
        rw [hdl] at hdr
        have LD := Lib.hid hdr
        have htk := Kd.C_take Ll.out (m := bl.length - 1) (by omega)
        have htl : (bl.take (bl.length - 1)).length = bl.length - 1 := by simp
        rw [htl] at htk
        have LT := Lib.hid htk
        have HDL := Lib.hid hdl
        have HTL := Lib.hid htl
        have hms : ((bl.length : Int) - 1) = ((bl.length - 1 : Nat) : Int) := by omega
        have q3 : (0 : Int) ≤ (bl.length : Int) - 1 := by omega
        have q4 : (bl.length : Int) - 1 ≤ (1 : Int) := by have := hlc_.out; omega
        have q5 : ((bl.length - 1 : Nat) : Int) ≤ (1 : Int) := by omega
        clear z0 z1 z2 hdr hdl htk htl
        go_wp2_with fail
        refine (implBdV' H2.out S2.out HDL.out _ _ _ LD.out (by have := HB1.out; omega)).mono ?_
        rintro e w4 ⟨rfl, b⟩
        replace Ll := Lib.hid (Kd.C_below Ll.out b)
        replace LD := Lib.hid (Kd.C_below LD.out b)
        replace LT := Lib.hid (Kd.C_below LT.out b)
        replace BW := Lib.hid (below_step BW.out b)
        clear b
        go_wp2_with fail
        refine (implBdV' H3.out S3.out HTL.out _ _ _ LT.out (by have := hlc_.out; omega)).mono ?_
        rintro e w5 ⟨rfl, b⟩
        replace Ll := Lib.hid (Kd.C_below Ll.out b)
        replace LD := Lib.hid (Kd.C_below LD.out b)
        replace LT := Lib.hid (Kd.C_below LT.out b)
        replace BW := Lib.hid (below_step BW.out b)
        clear b
        go_wp2_with fail
        go_ret
        exact ⟨rfl, by repeat (first | exact BW.out | refine below_alloc ?_ _)⟩
      · obtain ⟨ad, M1, mc, e3, z0, z1, z2, _⟩ := bd_at Ll.out 0 (by omega)
        subst e3
        have hdr := Kd.C_drop Ll.out (m := 1) (c := lc) (by omega) hlc_.out
        rw [if_neg hcap, Option.map_some, show ad.add (1 * kB.sz) = ⟨ad.block, ad.off + 3, none⟩ from add3 ad] at hdr
        have hdl : (bl.drop 1).length = bl.length - 1 := by simp
        rw [hdl] at hdr
        have LD := Lib.hid hdr
        have htk := Kd.C_take Ll.out (m := bl.length - 1) (by omega)
        have htl : (bl.take (bl.length - 1)).length = bl.length - 1 := by simp
        rw [htl] at htk
        have LT := Lib.hid htk
        have HDL := Lib.hid hdl
        have HTL := Lib.hid htl
        have hms : ((bl.length : Int) - 1) = ((bl.length - 1 : Nat) : Int) := by omega
        have q3 : (0 : Int) ≤ (bl.length : Int) - 1 := by omega
        have q4 : (bl.length : Int) - 1 ≤ (lc : Int) := by have := hlc_.out; omega
        have q5 : ((bl.length - 1 : Nat) : Int) ≤ (lc : Int) := by omega
        clear z0 z1 z2 hdr hdl htk htl
        go_wp2_with fail
        refine (implBdV' H2.out S2.out HDL.out _ _ _ LD.out (by have := hlc_.out; omega)).mono ?_
        rintro e w4 ⟨rfl, b⟩
        replace Ll := Lib.hid (Kd.C_below Ll.out b)
        replace LD := Lib.hid (Kd.C_below LD.out b)
        replace LT := Lib.hid (Kd.C_below LT.out b)
        replace BW := Lib.hid (below_step BW.out b)
        clear b
        go_wp2_with fail
        refine (implBdV' H3.out S3.out HTL.out _ _ _ LT.out (by have := hlc_.out; omega)).mono ?_
        rintro e w5 ⟨rfl, b⟩
        replace Ll := Lib.hid (Kd.C_below Ll.out b)
        replace LD := Lib.hid (Kd.C_below LD.out b)
        replace LT := Lib.hid (Kd.C_below LT.out b)
        replace BW := Lib.hid (below_step BW.out b)
        clear b
        go_wp2_with fail
        go_ret
        exact ⟨rfl, by repeat (first | exact BW.out | refine below_alloc ?_ _)⟩
end Go.Proofs.Ytcbomlmlindjdaa
end
section
namespace Go.Proofs.Ytcbomlmlindjdaa.fnBindsParts
open Go.ChangeShapes Go.WideShapes Go.ChangeAt Go.RowKit Go.Proofs.Ytcbomlmlindjdaa
open Go.ChangeMaps (open_string shut_string)
set_option linter.unusedVariables false
theorem own : ownKnob Try.prog.godebug = none := by kernel_rfl
theorem laidOut : laidOutB Try.prog = true := by kernel_rfl
def IsRow (k : IntKind) (w : World) (a : Option Addr) (len cap : Nat) (zs : List Int) : Prop :=
  (a = none ∧ len = 0 ∧ cap = 0 ∧ zs = []) ∨
  ∃ x, a = some x ∧ len ≤ cap ∧ cap ≤ maxLen ∧ zs.length = cap ∧ (∀ i, i < zs.length → w.cell? (x.add i) = some (.int k (zs.getD i 0))) ∧ ∀ n ∈ zs, (Lit.int k n).wf = true
set_option maxRecDepth 100000 in
theorem lifted (os : Os) (started : os.Started) (H : Type) (enc : TypeId × Value → H) :
    ReturnsInHanded {} Try.checked os 3 .any (Rows.fnBindsPartsSpec.pre6 enc Try.prog Try.f3 Rows.fnBindsPartsRow.domain false) (Rows.fnBindsPartsSpec.post enc Try.prog Try.f3 false true false false) := by
  refine returnsInHanded_of_change_sized (C := Try.checked) own started (by kernel_rfl) Try.func3
    (ChangeSpec.witness6 (enc := enc) (C := Try.checked) false ⟨#[], #[.slice none 0 0], []⟩ 8 (by kernel_rfl) (by kernel_rfl) (by kernel_rfl) (by kernel_rfl)) ?_
  intro W base args ds gs before hval0 hW hcnd hsz0 _
  have hsz : (DataW.weightsEach Try.prog (Try.f3.params.toList ++ Rows.fnBindsPartsSpec.plain.varTypes Try.prog) (ds ++ gs)).all (· ≤ reachBytes) = true := hsz0
  have hval : ∀ (j : Nat) t v, Try.f3.params[j]? = some t → args[j]? = some v → Value.okWide Try.prog W .any base t v := hval0
  have hW' := hW
  obtain ⟨p, q, hA0, hV, rfl, hfz, hnd⟩ := hW
  have hA : DataW.TrodAll enc Try.prog W 0 (fun _ => true) true Try.f3.params.toList args.toList ds p := hA0
  rw [Try.params3] at hA hval hsz
  obtain ⟨v0, vs0, d0, ds0, p0, q0, hargs, rfl, rfl, h0, r0⟩ := trodAll_cons hA
  obtain ⟨rfl, rfl, rfl⟩ := trodAll_nil r0
  obtain rfl : args = #[v0] := by cases args; simp_all
  obtain ⟨rfl, rfl⟩ := trodVars_none hV
  obtain ⟨a0, len0, cap0, rfl⟩ := okWide_slice Try.underlying22 (hval 0 22 v0 rfl rfl)
  have k0 := h0
  have lt0 : ∀ x ∈ p0, x.block < W.heap.size := by obtain ⟨m, hm⟩ := k0; exact DataW.trod_lt m _ _ _ hm
  obtain ⟨z0, w0⟩ : ∃ zs, IsRow .u8 W a0 len0 cap0 zs := by
    obtain ⟨fuel, hf⟩ := h0
    rcases open_ints Try.underlying22 Try.underlying5 (by kernel_rfl) hf with ⟨hcs, _⟩ | ⟨x, l, c, zs, hcs, _, hl, hm, hz, _, hcell, hwz⟩
    · simp [Value.cells] at hcs
      obtain ⟨rfl, rfl, rfl⟩ := hcs
      exact ⟨[], .inl ⟨rfl, rfl, rfl, rfl⟩⟩
    · simp [Value.cells] at hcs
      obtain ⟨rfl, rfl, rfl⟩ := hcs
      exact ⟨zs, .inr ⟨_, rfl, hl, hm, by simpa using hz, hcell, hwz⟩⟩
  have y0 : len0 * 1 ≤ 140737488351232 := Go.Proofs.YtcbomlmlindjdaaW.PrintWords.sized_ints hsz (j := 0) (t := 22) rfl rfl Try.underlying22 Try.underlying5 (by kernel_rfl) (by kernel_rfl) h0
  obtain ⟨l0, rfl, hr0, hm0, hw0, hc0⟩ := Go.Proofs.YtcbomlmlindjdaaW.PrintWords.ReadsInt.ofRowC w0
  clear hA0 hval0 hsz0 hsz
  refine (fnBindsParts_walk _ _ l0 W (Go.Proofs.YtcbomlmlindjdaaW.PrintWords.Kd.C_of_reads (d := (0 : Int)) (h1 := fun _ => rfl) hr0) hc0 y0 hw0).mono fun e W' ⟨he, bel⟩ => ?_
  subst he
  exact ⟨_, rfl, _, _, _, [], _, [], hW', trodAll_mk1 (shut_bool Try.underlying4 _), (trodAll_cons_mk (Below.trod laidOut (by kernel_rfl) (of_decide_eq_true (by kernel_rfl)) k0 bel lt0) trodAll_mk0), rfl, bel.frame _, fun h => by cases h⟩
set_option maxRecDepth 100000 in
theorem closed : joinedFacts Try.prog 3 Try.f3 Rows.fnBindsPartsSpec Rows.fnBindsPartsRow = true := by
  unfold joinedFacts
  refine Bool.and_eq_true_iff.2 ⟨Bool.and_eq_true_iff.2 ⟨Bool.and_eq_true_iff.2 ⟨Bool.and_eq_true_iff.2 ⟨Bool.and_eq_true_iff.2 ⟨Bool.and_eq_true_iff.2 ⟨Bool.and_eq_true_iff.2 ⟨?_, mayEnter_yes⟩, (congrArg (fun b => Rows.fnBindsPartsRow.lifted == b) liftsFinal_no).trans (by kernel_rfl)⟩, (congrArg (fun b => b == some Rows.fnBindsPartsRow.make) make_cut).trans (by kernel_rfl)⟩, ?_⟩, ?_⟩, ?_⟩, ?_⟩
  all_goals kernel_rfl
theorem over : Rows.fnBindsPartsRow.holds Try.pinned (OpenSpec.ofChange Rows.fnBindsPartsSpec) :=
  OpenClaim.holds_of_wide 3 Try.f3 rfl rfl rfl rfl rfl rfl rfl ⟨rfl, rfl, rfl, rfl, rfl⟩ rfl rfl rfl rfl rfl (by kernel_rfl) Try.func3 closed
    (of_decide_eq_true (by kernel_rfl)) (by unfold Func.isWrapper; first | (rw [if_pos (by decide +kernel)]; kernel_rfl) | (rw [if_neg (by decide +kernel)]; exact ⟨rfl, rfl⟩))
    (fun os started H enc _ => lifted os started H enc)
end Go.Proofs.Ytcbomlmlindjdaa.fnBindsParts
namespace Go.Proofs.Ytcbomlmlindjdaa
/-- The row. -/
theorem fnBindsParts_holds : Rows.FnBindsPartsSaid := fnBindsParts.over
#print axioms fnBindsParts_holds
end Go.Proofs.Ytcbomlmlindjdaa
end
