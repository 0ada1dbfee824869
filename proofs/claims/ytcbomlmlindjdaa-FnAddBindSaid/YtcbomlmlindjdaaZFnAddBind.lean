/- A name that is bound has its binding. For every input the law FnAddBind returns true, and leaves its input alone. No condition. -/
import Derived.Below
import Derived.ChangeOld
import Derived.JoinedOf
import Derived.KernelRfl
import Derived.OpenShut
import Derived.ProofKit
import Derived.RowKit3
import Derived.ShutString
import Derived.SizedLaws
import Derived.Test.YtcbomlmlindjdaaRows
import Derived.WalkKit
import Derived.Test.YtcbomlmlindjdaaKb1
import Derived.Test.YtcbomlmlindjdaaKb6
section
namespace Go.Proofs.Ytcbomlmlindjdaa
open Go.RowKit Go.Proofs.YtcbomlmlindjdaaW.PrintWords Go.Proofs.YtcbomlmlindjdaaW.PrintLast Go.Proofs.YtcbomlmlindjdaaW.PrintMore
set_option linter.unusedVariables false
set_option linter.unusedSimpArgs false
set_option maxHeartbeats 4000000 in
set_option maxRecDepth 100000 in
theorem fnAddBind_walk (A0 : Option Addr) (c0 : Nat) (l0 : List Int) (w : World)
    (hr0 : (Kd.int .u8).C w A0 l0.length l0) (hc0 : l0.length ≤ c0) (y0 : l0.length * 1 ≤ 140737488351232) (hw0 : ∀ n ∈ l0, (Lit.int .u8 n).wf = true) :
    Calls Try.prog 5 #[.slice A0 l0.length c0] w fun e w' => e = .returned (.bool true) ∧ Below w.heap.size w w' := by
  by_cases g0 : l0.length ≤ 1048576
  rotate_left
  · have t0 : decide ((l0.length : Int) > 1048576) = true := decide_eq_true (by omega)
    have t0' : decide (1048576 < l0.length) = true := decide_eq_true (by omega)
    go_enter Try.func5, Try.ntmps5
    go_wp2_with fail
    go_ret
    exact ⟨rfl, Below.refl _ _⟩
  obtain ⟨bl, x, n, hbl, hx, D0⟩ := dDrawAddBind l0 (fun z hz => byteOk (hw0 z hz))
  replace D0 := Lib.hid D0
  have hsm := hbl.B (by omega)
  have hbl1 := hbl.1
  have HSM := Lib.hid hsm
  rcases h1 : addBindR bl x n with ⟨r, t⟩
  have hsr : SmB r := by
    cases t with
    | true => obtain ⟨_, _, h2, _⟩ := addBind_true h1; exact (bdsOk_small h2).B (by omega)
    | false =>
      have := addBind_false h1
      subst this
      exact ⟨by simp, by simp⟩
  have H1 := Lib.hid h1
  have HSR := Lib.hid hsr
  have n1 : (t != t) = false := by simp
  have n2 : (t == t) = true := by simp
  clear h1 hsm hsr hbl
  have t0 : decide ((l0.length : Int) > 1048576) = false := decide_eq_false (by omega)
  have t0' : decide (1048576 < l0.length) = false := decide_eq_false (by omega)
  go_enter Try.func5, Try.ntmps5
  go_wp2_with fail
  refine (D0.out A0 c0 _ hr0 hc0).mono ?_
  rintro e w1 ⟨lA, lc, X_3, X_c3, X_4, X_c4, rfl, hcl, hCl, i, b⟩
  have I := Lib.hid i
  clear i
  have Ll := Lib.hid hCl
  have hlc_ := Lib.hid hcl
  clear hCl hcl
  have BW := Lib.hid b
  clear b
  have Ix := Lib.hid I.out
  clear I
  go_wp2_with fail
  refine (implAb H1.out HSM.out (by omega) _ _ _ _ _ _ _ (Kd.C_below Ll.out (below_new _ _)) hlc_.out (Ix.out.below (below_new _ _))).mono ?_
  rintro e w2 ⟨rA, rc, rfl, hcr, hCr, b⟩
  have Lr := Lib.hid hCr
  have hrc_ := Lib.hid hcr
  clear hCr hcr
  obtain ⟨k, b⟩ := one_new b
  replace Ix := Lib.hid (Ix.out.below b)
  replace Ll := Lib.hid (Kd.C_below Ll.out b)
  replace BW := Lib.hid (below_step BW.out b)
  have Kx := Lib.hid k
  clear k
  clear b
  obtain ⟨p0, p1, p2, p3, p4⟩ := fm_cells Kx.out
  go_wp2_with fail
  clear p0 p1 p2 p3 p4
  refine (specAb H1.out HSM.out (by omega) _ _ _ _ _ _ _ Ll.out hlc_.out Ix.out).mono ?_
  rintro e w3 ⟨sA, sc, rfl, hcs, hCs, b⟩
  have Ls := Lib.hid hCs
  have hsc_ := Lib.hid hcs
  clear hCs hcs
  replace Kx := Lib.hid (blk_below Kx.out b)
  replace Ix := Lib.hid (Ix.out.below b)
  replace Ll := Lib.hid (Kd.C_below Ll.out b)
  replace Lr := Lib.hid (Kd.C_below Lr.out b)
  replace BW := Lib.hid (below_step BW.out b)
  clear b
  go_wp2_with fail
  refine (mxB r HSR.out _ _ _ _ _ Lr.out hrc_.out Ls.out hsc_.out).mono ?_
  rintro e w4 ⟨rfl, b⟩
  replace Kx := Lib.hid (blk_below Kx.out b)
  replace Ix := Lib.hid (Ix.out.below b)
  replace Ll := Lib.hid (Kd.C_below Ll.out b)
  replace Lr := Lib.hid (Kd.C_below Lr.out b)
  replace Ls := Lib.hid (Kd.C_below Ls.out b)
  replace BW := Lib.hid (below_step BW.out b)
  clear b
  rcases t with _ | _
  · go_wp2_with fail
    refine (mxB r HSR.out _ _ _ _ _ Lr.out hrc_.out Ls.out hsc_.out).mono ?_
    rintro e w5 ⟨rfl, b⟩
    replace Kx := Lib.hid (blk_below Kx.out b)
    replace Ix := Lib.hid (Ix.out.below b)
    replace Ll := Lib.hid (Kd.C_below Ll.out b)
    replace Lr := Lib.hid (Kd.C_below Lr.out b)
    replace Ls := Lib.hid (Kd.C_below Ls.out b)
    replace BW := Lib.hid (below_step BW.out b)
    clear b
    go_wp2_with fail
    go_ret
    exact ⟨rfl, by repeat (first | exact BW.out | refine below_alloc ?_ _)⟩
  · have h3 := addBind_true H1.out
    have HFD := Lib.hid (addBind_find H1.out)
    have HOK := Lib.hid (pB_iff.2 h3.2.2.1)
    have hre := h3.2.2.2
    have hrl : r.length = bl.length + 1 := by rw [hre]; simp
    have hrt : r.take bl.length = bl := by rw [hre]; simp
    have HRL := Lib.hid hrl
    have HRT := Lib.hid hrt
    have e1 : ((r.length : Int) == (bl.length : Int) + 1) = true := by simp [hrl]
    have q1 : (bl.length : Int) ≤ (rc : Int) := by have := hrc_.out; omega
    have q0 : (0 : Int) ≤ (bl.length : Int) := by omega
    have q2 : bl.length ≤ rc := by have := hrc_.out; omega
    clear h3 hre hrl hrt
    obtain ⟨p0, p1, p2, p3, p4⟩ := fm_cells Kx.out
    go_wp2_with fail
    clear p0 p1 p2 p3 p4
    refine (implFd HFD.out HSR.out (by omega) _ _ _ _ _ _ _ Lr.out hrc_.out Ix.out).mono ?_
    rintro e w5 ⟨rfl, b⟩
    replace Kx := Lib.hid (blk_below Kx.out b)
    replace Ix := Lib.hid (Ix.out.below b)
    replace Ll := Lib.hid (Kd.C_below Ll.out b)
    replace Lr := Lib.hid (Kd.C_below Lr.out b)
    replace Ls := Lib.hid (Kd.C_below Ls.out b)
    replace BW := Lib.hid (below_step BW.out b)
    clear b
    have m1 : (n == n) = true := by simp
    go_wp2_with fail
    refine (implBdV HOK.out HSR.out _ _ _ Lr.out hrc_.out).mono ?_
    rintro e w6 ⟨rfl, b⟩
    replace Kx := Lib.hid (blk_below Kx.out b)
    replace Ix := Lib.hid (Ix.out.below b)
    replace Ll := Lib.hid (Kd.C_below Ll.out b)
    replace Lr := Lib.hid (Kd.C_below Lr.out b)
    replace Ls := Lib.hid (Kd.C_below Ls.out b)
    replace BW := Lib.hid (below_step BW.out b)
    clear b
    have LT := Lib.hid (show kB.C w6 rA bl.length bl from by
      have htk := Kd.C_take Lr.out (m := bl.length) (by have := HRL.out; omega)
      rw [HRT.out] at htk
      exact htk)
    go_wp2_with fail
    refine (mxB bl HSM.out _ _ _ _ _ LT.out q2 Ll.out hlc_.out).mono ?_
    rintro e w7 ⟨rfl, b⟩
    replace Kx := Lib.hid (blk_below Kx.out b)
    replace Ix := Lib.hid (Ix.out.below b)
    replace Ll := Lib.hid (Kd.C_below Ll.out b)
    replace Lr := Lib.hid (Kd.C_below Lr.out b)
    replace Ls := Lib.hid (Kd.C_below Ls.out b)
    replace LT := Lib.hid (Kd.C_below LT.out b)
    replace BW := Lib.hid (below_step BW.out b)
    clear b
    go_wp2_with fail
    go_ret
    exact ⟨rfl, by repeat (first | exact BW.out | refine below_alloc ?_ _)⟩
end Go.Proofs.Ytcbomlmlindjdaa
end
section
namespace Go.Proofs.Ytcbomlmlindjdaa.fnAddBind
open Go.ChangeShapes Go.WideShapes Go.ChangeAt Go.RowKit Go.Proofs.Ytcbomlmlindjdaa
open Go.ChangeMaps (open_string shut_string)
set_option linter.unusedVariables false
theorem own : ownKnob Try.prog.godebug = none := by kernel_rfl
theorem laidOut : laidOutB Try.prog = true := by kernel_rfl
def IsRow (k : IntKind) (w : World) (a : Option Addr) (len cap : Nat) (zs : List Int) : Prop :=
  (a = none ∧ len = 0 ∧ cap = 0 ∧ zs = []) ∨
  ∃ x, a = some x ∧ len ≤ cap ∧ cap ≤ maxLen ∧ zs.length = cap ∧ (∀ i, i < zs.length → w.cell? (x.add i) = some (.int k (zs.getD i 0))) ∧ ∀ n ∈ zs, (Lit.int k n).wf = true
set_option maxRecDepth 100000 in
theorem lifted (os : Os) (started : os.Started) (H : Type) (enc : TypeId × Value → H) :
    ReturnsInHanded {} Try.checked os 5 .any (Rows.fnAddBindSpec.pre6 enc Try.prog Try.f5 Rows.fnAddBindRow.domain false) (Rows.fnAddBindSpec.post enc Try.prog Try.f5 false true false false) := by
  refine returnsInHanded_of_change_sized (C := Try.checked) own started (by kernel_rfl) Try.func5
    (ChangeSpec.witness6 (enc := enc) (C := Try.checked) false ⟨#[], #[.slice none 0 0], []⟩ 8 (by kernel_rfl) (by kernel_rfl) (by kernel_rfl) (by kernel_rfl)) ?_
  intro W base args ds gs before hval0 hW hcnd hsz0 _
  have hsz : (DataW.weightsEach Try.prog (Try.f5.params.toList ++ Rows.fnAddBindSpec.plain.varTypes Try.prog) (ds ++ gs)).all (· ≤ reachBytes) = true := hsz0
  have hval : ∀ (j : Nat) t v, Try.f5.params[j]? = some t → args[j]? = some v → Value.okWide Try.prog W .any base t v := hval0
  have hW' := hW
  obtain ⟨p, q, hA0, hV, rfl, hfz, hnd⟩ := hW
  have hA : DataW.TrodAll enc Try.prog W 0 (fun _ => true) true Try.f5.params.toList args.toList ds p := hA0
  rw [Try.params5] at hA hval hsz
  obtain ⟨v0, vs0, d0, ds0, p0, q0, hargs, rfl, rfl, h0, r0⟩ := trodAll_cons hA
  obtain ⟨rfl, rfl, rfl⟩ := trodAll_nil r0
  obtain rfl : args = #[v0] := by cases args; simp_all
  obtain ⟨rfl, rfl⟩ := trodVars_none hV
  obtain ⟨a0, len0, cap0, rfl⟩ := okWide_slice Try.underlying22 (hval 0 22 v0 rfl rfl)
  have k0 := h0
  have lt0 : ∀ x ∈ p0, x.block < W.heap.size := by obtain ⟨m, hm⟩ := k0; exact DataW.trod_lt m _ _ _ hm
  obtain ⟨z0, w0⟩ : ∃ zs, IsRow .u8 W a0 len0 cap0 zs := by
    obtain ⟨fuel, hf⟩ := h0
    rcases open_ints Try.underlying22 Try.underlying5 (by kernel_rfl) hf with ⟨hcs, _⟩ | ⟨x, l, c, zs, hcs, _, hl, hm, hz, _, hcell, hwz⟩
    · simp [Value.cells] at hcs
      obtain ⟨rfl, rfl, rfl⟩ := hcs
      exact ⟨[], .inl ⟨rfl, rfl, rfl, rfl⟩⟩
    · simp [Value.cells] at hcs
      obtain ⟨rfl, rfl, rfl⟩ := hcs
      exact ⟨zs, .inr ⟨_, rfl, hl, hm, by simpa using hz, hcell, hwz⟩⟩
  have y0 : len0 * 1 ≤ 140737488351232 := Go.Proofs.YtcbomlmlindjdaaW.PrintWords.sized_ints hsz (j := 0) (t := 22) rfl rfl Try.underlying22 Try.underlying5 (by kernel_rfl) (by kernel_rfl) h0
  obtain ⟨l0, rfl, hr0, hm0, hw0, hc0⟩ := Go.Proofs.YtcbomlmlindjdaaW.PrintWords.ReadsInt.ofRowC w0
  clear hA0 hval0 hsz0 hsz
  refine (fnAddBind_walk _ _ l0 W (Go.Proofs.YtcbomlmlindjdaaW.PrintWords.Kd.C_of_reads (d := (0 : Int)) (h1 := fun _ => rfl) hr0) hc0 y0 hw0).mono fun e W' ⟨he, bel⟩ => ?_
  subst he
  exact ⟨_, rfl, _, _, _, [], _, [], hW', trodAll_mk1 (shut_bool Try.underlying4 _), (trodAll_cons_mk (Below.trod laidOut (by kernel_rfl) (of_decide_eq_true (by kernel_rfl)) k0 bel lt0) trodAll_mk0), rfl, bel.frame _, fun h => by cases h⟩
set_option maxRecDepth 100000 in
theorem closed : joinedFacts Try.prog 5 Try.f5 Rows.fnAddBindSpec Rows.fnAddBindRow = true := by
  unfold joinedFacts
  refine Bool.and_eq_true_iff.2 ⟨Bool.and_eq_true_iff.2 ⟨Bool.and_eq_true_iff.2 ⟨Bool.and_eq_true_iff.2 ⟨Bool.and_eq_true_iff.2 ⟨Bool.and_eq_true_iff.2 ⟨Bool.and_eq_true_iff.2 ⟨?_, mayEnter_yes⟩, (congrArg (fun b => Rows.fnAddBindRow.lifted == b) liftsFinal_no).trans (by kernel_rfl)⟩, (congrArg (fun b => b == some Rows.fnAddBindRow.make) make_cut).trans (by kernel_rfl)⟩, ?_⟩, ?_⟩, ?_⟩, ?_⟩
  all_goals kernel_rfl
theorem over : Rows.fnAddBindRow.holds Try.pinned (OpenSpec.ofChange Rows.fnAddBindSpec) :=
  OpenClaim.holds_of_wide 5 Try.f5 rfl rfl rfl rfl rfl rfl rfl ⟨rfl, rfl, rfl, rfl, rfl⟩ rfl rfl rfl rfl rfl (by kernel_rfl) Try.func5 closed
    (of_decide_eq_true (by kernel_rfl)) (by unfold Func.isWrapper; first | (rw [if_pos (by decide +kernel)]; kernel_rfl) | (rw [if_neg (by decide +kernel)]; exact ⟨rfl, rfl⟩))
    (fun os started H enc _ => lifted os started H enc)
end Go.Proofs.Ytcbomlmlindjdaa.fnAddBind
namespace Go.Proofs.Ytcbomlmlindjdaa
/-- The row. -/
theorem fnAddBind_holds : Rows.FnAddBindSaid := fnAddBind.over
#print axioms fnAddBind_holds
end Go.Proofs.Ytcbomlmlindjdaa
end
