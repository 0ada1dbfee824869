/- A scope that is taken off is none of the form's, and adding it first changes nothing. For every input the law FnDropScope returns true, and leaves its input alone. No condition. -/
import Derived.Below
import Derived.ChangeOld
import Derived.JoinedOf
import Derived.KernelRfl
import Derived.OpenShut
import Derived.ProofKit
import Derived.RowKit3
import Derived.ShutString
import Derived.SizedLaws
import Derived.Test.YteonncnhhccgeaaRows
import Derived.WalkKit
import Derived.Test.YteonncnhhccgeaaPk1
import Derived.Test.YteonncnhhccgeaaPk4
import Derived.Test.YteonncnhhccgeaaPk5
section
namespace Go.Proofs.Yteonncnhhccgeaa
open Go.RowKit Go.Proofs.YteonncnhhccgeaaW.PrintWords Go.Proofs.YteonncnhhccgeaaW.PrintLast Go.Proofs.YteonncnhhccgeaaW.PrintMore
set_option linter.unusedVariables false
set_option linter.unusedSimpArgs false
set_option maxHeartbeats 4000000 in
set_option maxRecDepth 100000 in
theorem fnDropScope_walk (A0 : Option Addr) (c0 : Nat) (l0 : List Int) (w : World)
    (hr0 : (Kd.int .u8).C w A0 l0.length l0) (hc0 : l0.length ≤ c0) (y0 : l0.length * 1 ≤ 140737488351232) (hw0 : ∀ n ∈ l0, (Lit.int .u8 n).wf = true) :
    Calls Try.prog 8 #[.slice A0 l0.length c0] w fun e w' => e = .returned (.bool true) ∧ Below w.heap.size w w' := by
  by_cases g0 : l0.length ≤ 1048576
  rotate_left
  · have t0 : decide ((l0.length : Int) > 1048576) = true := decide_eq_true (by omega)
    have t0' : decide (1048576 < l0.length) = true := decide_eq_true (by omega)
    go_enter Try.func8, Try.ntmps8
    go_wp2_with fail
    go_ret
    exact ⟨rfl, Below.refl _ _⟩
  obtain ⟨x, n, hx, hn0, hn1, D0⟩ := drawDrop l0 (fun z hz => byteOk (hw0 z hz))
  rcases h1 : reS (fun l => takeO l n) n x with ⟨z, b1⟩
  have hz := reS_tot (fun l => takeO l n) n x
  rw [h1] at hz
  replace D0 := Lib.hid D0
  have t0 : decide ((l0.length : Int) > 1048576) = false := decide_eq_false (by omega)
  have t0' : decide (1048576 < l0.length) = false := decide_eq_false (by omega)
  go_enter Try.func8, Try.ntmps8
  go_wp2_with fail
  refine (D0.out A0 c0 _ hr0 hc0).mono ?_
  rintro e w1 ⟨X_3, X_c3, X_4, X_c4, rfl, i, b⟩
  have I := Lib.hid i
  clear i
  have BW := Lib.hid b
  clear b
  have Ix := Lib.hid I.out
  clear I
  go_wp2_with fail
  refine (implGDrop' h1 _ _ _ _ _ (Ix.out.below (below_new _ _)) (by omega)).mono ?_
  rintro e w2 ⟨Z_3, Z_c3, Z_4, Z_c4, rfl, i, b⟩
  have I := Lib.hid i
  clear i
  obtain ⟨k, b⟩ := one_new b
  replace Ix := Lib.hid (Ix.out.below b)
  replace BW := Lib.hid (below_step BW.out b)
  have Kx := Lib.hid k
  clear k
  clear b
  have Iz := Lib.hid I.out
  clear I
  obtain ⟨p0, p1, p2, p3, p4⟩ := fm_cells (blk_below Kx.out (below_new w2 (.cells #[.int .i64 z.f0, .string z.f1, .int .i64 z.f2, .slice Z_3 z.f3.length Z_c3, .slice Z_4 z.f4.length Z_c4] 31)))
  go_wp2_with fail
  clear p0 p1 p2 p3 p4
  refine (specGDrop' h1 _ _ _ _ _ (Ix.out.below (below_new _ _)) (by omega)).mono ?_
  rintro e w3 ⟨U_3, U_c3, U_4, U_c4, rfl, i, b⟩
  have I := Lib.hid i
  clear i
  obtain ⟨k, b⟩ := one_new b
  replace Kx := Lib.hid (blk_below Kx.out b)
  replace Ix := Lib.hid (Ix.out.below b)
  replace Iz := Lib.hid (Iz.out.below b)
  replace BW := Lib.hid (below_step BW.out b)
  have Kz := Lib.hid k
  clear k
  clear b
  have Iu := Lib.hid I.out
  clear I
  obtain ⟨p0, p1, p2, p3, p4⟩ := fm_cells (blk_below Kz.out (below_new w3 (.cells #[.int .i64 z.f0, .string z.f1, .int .i64 z.f2, .slice U_3 z.f3.length U_c3, .slice U_4 z.f4.length U_c4] 31)))
  go_wp2_with fail
  clear p0 p1 p2 p3 p4
  refine (sameT z _ _ _ _ _ _ _ _ _ (Iz.out.below (below_new _ _)) (Iu.out.below (below_new _ _))).mono ?_
  rintro e w4 ⟨rfl, b⟩
  obtain ⟨k, b⟩ := one_new b
  replace Kx := Lib.hid (blk_below Kx.out b)
  replace Kz := Lib.hid (blk_below Kz.out b)
  replace Ix := Lib.hid (Ix.out.below b)
  replace Iz := Lib.hid (Iz.out.below b)
  replace Iu := Lib.hid (Iu.out.below b)
  replace BW := Lib.hid (below_step BW.out b)
  have Ku := Lib.hid k
  clear k
  clear b
  rcases b1 with _ | _
  · obtain ⟨p0, p1, p2, p3, p4⟩ := fm_cells Kz.out
    obtain ⟨q0, q1, q2, q3, q4⟩ := fm_cells Ku.out
    go_wp2_with fail
    clear p0 p1 p2 p3 p4 q0 q1 q2 q3 q4
    refine (sameT z _ _ _ _ _ _ _ _ _ Iz.out Iu.out).mono ?_
    rintro e w5 ⟨rfl, b⟩
    replace Kx := Lib.hid (blk_below Kx.out b)
    replace Kz := Lib.hid (blk_below Kz.out b)
    replace Ku := Lib.hid (blk_below Ku.out b)
    replace Ix := Lib.hid (Ix.out.below b)
    replace Iz := Lib.hid (Iz.out.below b)
    replace Iu := Lib.hid (Iu.out.below b)
    replace BW := Lib.hid (below_step BW.out b)
    clear b
    go_wp2_with fail
    go_ret
    exact ⟨rfl, by repeat (first | exact BW.out | refine below_alloc ?_ _)⟩
  · rcases h2 : reS (fun l => putS l n) n x with ⟨y, b2⟩
    have hy := reS_tot (fun l => putS l n) n x
    rw [h2] at hy
    rcases h3 : reS (fun l => takeO l n) n y with ⟨t, b3⟩
    have ht := reS_tot (fun l => takeO l n) n y
    rw [h3] at ht
    obtain ⟨l, hl⟩ : ∃ l, scAll z = l := ⟨_, rfl⟩
    have hgone := drop_gone h1
    rw [hl] at hgone
    obtain ⟨p0, p1, p2, p3, p4⟩ := fm_cells Kx.out
    go_wp2_with fail
    clear p0 p1 p2 p3 p4
    refine (implGAdd' h2 _ _ _ _ _ Ix.out (by omega)).mono ?_
    rintro e w5 ⟨Y_3, Y_c3, Y_4, Y_c4, rfl, i, b⟩
    have I := Lib.hid i
    clear i
    replace Kx := Lib.hid (blk_below Kx.out b)
    replace Kz := Lib.hid (blk_below Kz.out b)
    replace Ku := Lib.hid (blk_below Ku.out b)
    replace Ix := Lib.hid (Ix.out.below b)
    replace Iz := Lib.hid (Iz.out.below b)
    replace Iu := Lib.hid (Iu.out.below b)
    replace BW := Lib.hid (below_step BW.out b)
    clear b
    have Iy := Lib.hid I.out
    clear I
    go_wp2_with fail
    refine (implGDrop' h3 _ _ _ _ _ (Iy.out.below (below_new _ _)) (by omega)).mono ?_
    rintro e w6 ⟨T_3, T_c3, T_4, T_c4, rfl, i, b⟩
    have I := Lib.hid i
    clear i
    obtain ⟨k, b⟩ := one_new b
    replace Kx := Lib.hid (blk_below Kx.out b)
    replace Kz := Lib.hid (blk_below Kz.out b)
    replace Ku := Lib.hid (blk_below Ku.out b)
    replace Ix := Lib.hid (Ix.out.below b)
    replace Iz := Lib.hid (Iz.out.below b)
    replace Iu := Lib.hid (Iu.out.below b)
    replace Iy := Lib.hid (Iy.out.below b)
    replace BW := Lib.hid (below_step BW.out b)
    have Ky := Lib.hid k
    clear k
    clear b
    have It := Lib.hid I.out
    clear I
    obtain ⟨p0, p1, p2, p3, p4⟩ := fm_cells (blk_below (blk_below Kz.out (below_new w6 (.cells #[.int .i64 t.f0, .string t.f1, .int .i64 t.f2, .slice T_3 t.f3.length T_c3, .slice T_4 t.f4.length T_c4] 31))) (below_new _ (.cells #[.int .i64 n] 3)))
    go_wp2_with fail
    clear p0 p1 p2 p3 p4
    have b := Below.refl (w6.alloc (.cells #[.int .i64 t.f0, .string t.f1, .int .i64 t.f2, .slice T_3 t.f3.length T_c3, .slice T_4 t.f4.length T_c4] 31)).heap.size (w6.alloc (.cells #[.int .i64 t.f0, .string t.f1, .int .i64 t.f2, .slice T_3 t.f3.length T_c3, .slice T_4 t.f4.length T_c4] 31))
    obtain ⟨k, b⟩ := one_new b
    replace Kx := Lib.hid (blk_below Kx.out b)
    replace Kz := Lib.hid (blk_below Kz.out b)
    replace Ku := Lib.hid (blk_below Ku.out b)
    replace Ky := Lib.hid (blk_below Ky.out b)
    replace Ix := Lib.hid (Ix.out.below b)
    replace Iz := Lib.hid (Iz.out.below b)
    replace Iu := Lib.hid (Iu.out.below b)
    replace Iy := Lib.hid (Iy.out.below b)
    replace It := Lib.hid (It.out.below b)
    replace BW := Lib.hid (below_step BW.out b)
    have Kt := Lib.hid k
    clear k
    clear b
    have hz9 : (w6.alloc (.cells #[.int .i64 t.f0, .string t.f1, .int .i64 t.f2, .slice T_3 t.f3.length T_c3, .slice T_4 t.f4.length T_c4] 31)).heap.size = w6.heap.size + 1 := by simp
    generalize (w6.alloc (.cells #[.int .i64 t.f0, .string t.f1, .int .i64 t.f2, .slice T_3 t.f3.length T_c3, .slice T_4 t.f4.length T_c4] 31)) = wz at hz9 Kx Kz Ku Ky Kt Ix Iz Iu Iy It BW ⊢
    have hb0 := below_new wz (.cells #[.int .i64 n] 3)
    have hrow := reads_block (l := [n]) (blk_new wz (.cells #[.int .i64 n] 3)) (by simp) rfl
    rw [hz9] at hrow
    refine (implSc' hl _ _ _ _ _ (Iz.out.below hb0) (by omega)).mono ?_
    rintro e w7 ⟨lA, lc, rfl, hlc_, hC, b⟩
    have Ll := Lib.hid hC
    have Lr := Lib.hid (Kd.C_below hrow b)
    replace b := below_step hb0 b
    clear hC hb0 hrow
    replace Kx := Lib.hid (blk_below Kx.out b)
    replace Kz := Lib.hid (blk_below Kz.out b)
    replace Ku := Lib.hid (blk_below Ku.out b)
    replace Ky := Lib.hid (blk_below Ky.out b)
    replace Kt := Lib.hid (blk_below Kt.out b)
    replace Ix := Lib.hid (Ix.out.below b)
    replace Iz := Lib.hid (Iz.out.below b)
    replace Iu := Lib.hid (Iu.out.below b)
    replace Iy := Lib.hid (Iy.out.below b)
    replace It := Lib.hid (It.out.below b)
    replace BW := Lib.hid (below_step BW.out b)
    clear b
    go_wp2_with fail
    refine (implW' hgone _ _ _ _ _ Lr.out (Nat.le_refl _) Ll.out hlc_).mono ?_
    rintro e w8 ⟨rfl, b⟩
    replace Kx := Lib.hid (blk_below Kx.out b)
    replace Kz := Lib.hid (blk_below Kz.out b)
    replace Ku := Lib.hid (blk_below Ku.out b)
    replace Ky := Lib.hid (blk_below Ky.out b)
    replace Kt := Lib.hid (blk_below Kt.out b)
    replace Ix := Lib.hid (Ix.out.below b)
    replace Iz := Lib.hid (Iz.out.below b)
    replace Iu := Lib.hid (Iu.out.below b)
    replace Iy := Lib.hid (Iy.out.below b)
    replace It := Lib.hid (It.out.below b)
    replace Ll := Lib.hid (Kd.C_below Ll.out b)
    replace Lr := Lib.hid (Kd.C_below Lr.out b)
    replace BW := Lib.hid (below_step BW.out b)
    clear b
    rcases b2 with _ | _
    · go_wp2_with fail
      go_ret
      exact ⟨rfl, by repeat (first | exact BW.out | refine below_alloc ?_ _)⟩
    · have h4 := add_drop h1 h2
      rw [h3] at h4
      cases h4
      obtain ⟨p0, p1, p2, p3, p4⟩ := fm_cells Kt.out
      obtain ⟨q0, q1, q2, q3, q4⟩ := fm_cells Kz.out
      go_wp2_with fail
      clear p0 p1 p2 p3 p4 q0 q1 q2 q3 q4
      refine (sameT z _ _ _ _ _ _ _ _ _ It.out Iz.out).mono ?_
      rintro e w9 ⟨rfl, b⟩
      replace Kx := Lib.hid (blk_below Kx.out b)
      replace Kz := Lib.hid (blk_below Kz.out b)
      replace Ku := Lib.hid (blk_below Ku.out b)
      replace Ky := Lib.hid (blk_below Ky.out b)
      replace Kt := Lib.hid (blk_below Kt.out b)
      replace Ix := Lib.hid (Ix.out.below b)
      replace Iz := Lib.hid (Iz.out.below b)
      replace Iu := Lib.hid (Iu.out.below b)
      replace Iy := Lib.hid (Iy.out.below b)
      replace It := Lib.hid (It.out.below b)
      replace Ll := Lib.hid (Kd.C_below Ll.out b)
      replace Lr := Lib.hid (Kd.C_below Lr.out b)
      replace BW := Lib.hid (below_step BW.out b)
      clear b
      go_wp2_with fail
      go_ret
      exact ⟨rfl, by repeat (first | exact BW.out | refine below_alloc ?_ _)⟩
end Go.Proofs.Yteonncnhhccgeaa
end
section
namespace Go.Proofs.Yteonncnhhccgeaa.fnDropScope
open Go.ChangeShapes Go.WideShapes Go.ChangeAt Go.RowKit Go.Proofs.Yteonncnhhccgeaa
open Go.ChangeMaps (open_string shut_string)
set_option linter.unusedVariables false
theorem own : ownKnob Try.prog.godebug = none := by kernel_rfl
theorem laidOut : laidOutB Try.prog = true := by kernel_rfl
def IsRow (k : IntKind) (w : World) (a : Option Addr) (len cap : Nat) (zs : List Int) : Prop :=
  (a = none ∧ len = 0 ∧ cap = 0 ∧ zs = []) ∨
  ∃ x, a = some x ∧ len ≤ cap ∧ cap ≤ maxLen ∧ zs.length = cap ∧ (∀ i, i < zs.length → w.cell? (x.add i) = some (.int k (zs.getD i 0))) ∧ ∀ n ∈ zs, (Lit.int k n).wf = true
set_option maxRecDepth 100000 in
theorem lifted (os : Os) (started : os.Started) (H : Type) (enc : TypeId × Value → H) :
    ReturnsInHanded {} Try.checked os 8 .any (Rows.fnDropScopeSpec.pre6 enc Try.prog Try.f8 Rows.fnDropScopeRow.domain false) (Rows.fnDropScopeSpec.post enc Try.prog Try.f8 false true false false) := by
  refine returnsInHanded_of_change_sized (C := Try.checked) own started (by kernel_rfl) Try.func8
    (ChangeSpec.witness6 (enc := enc) (C := Try.checked) false ⟨#[], #[.slice none 0 0], []⟩ 8 (by kernel_rfl) (by kernel_rfl) (by kernel_rfl) (by kernel_rfl)) ?_
  intro W base args ds gs before hval0 hW hcnd hsz0 _
  have hsz : (DataW.weightsEach Try.prog (Try.f8.params.toList ++ Rows.fnDropScopeSpec.plain.varTypes Try.prog) (ds ++ gs)).all (· ≤ reachBytes) = true := hsz0
  have hval : ∀ (j : Nat) t v, Try.f8.params[j]? = some t → args[j]? = some v → Value.okWide Try.prog W .any base t v := hval0
  have hW' := hW
  obtain ⟨p, q, hA0, hV, rfl, hfz, hnd⟩ := hW
  have hA : DataW.TrodAll enc Try.prog W 0 (fun _ => true) true Try.f8.params.toList args.toList ds p := hA0
  rw [Try.params8] at hA hval hsz
  obtain ⟨v0, vs0, d0, ds0, p0, q0, hargs, rfl, rfl, h0, r0⟩ := trodAll_cons hA
  obtain ⟨rfl, rfl, rfl⟩ := trodAll_nil r0
  obtain rfl : args = #[v0] := by cases args; simp_all
  obtain ⟨rfl, rfl⟩ := trodVars_none hV
  obtain ⟨a0, len0, cap0, rfl⟩ := okWide_slice Try.underlying22 (hval 0 22 v0 rfl rfl)
  have k0 := h0
  have lt0 : ∀ x ∈ p0, x.block < W.heap.size := by obtain ⟨m, hm⟩ := k0; exact DataW.trod_lt m _ _ _ hm
  obtain ⟨z0, w0⟩ : ∃ zs, IsRow .u8 W a0 len0 cap0 zs := by
    obtain ⟨fuel, hf⟩ := h0
    rcases open_ints Try.underlying22 Try.underlying5 (by kernel_rfl) hf with ⟨hcs, _⟩ | ⟨x, l, c, zs, hcs, _, hl, hm, hz, _, hcell, hwz⟩
    · simp [Value.cells] at hcs
      obtain ⟨rfl, rfl, rfl⟩ := hcs
      exact ⟨[], .inl ⟨rfl, rfl, rfl, rfl⟩⟩
    · simp [Value.cells] at hcs
      obtain ⟨rfl, rfl, rfl⟩ := hcs
      exact ⟨zs, .inr ⟨_, rfl, hl, hm, by simpa using hz, hcell, hwz⟩⟩
  have y0 : len0 * 1 ≤ 140737488351232 := Go.Proofs.YteonncnhhccgeaaW.PrintWords.sized_ints hsz (j := 0) (t := 22) rfl rfl Try.underlying22 Try.underlying5 (by kernel_rfl) (by kernel_rfl) h0
  obtain ⟨l0, rfl, hr0, hm0, hw0, hc0⟩ := Go.Proofs.YteonncnhhccgeaaW.PrintWords.ReadsInt.ofRowC w0
  clear hA0 hval0 hsz0 hsz
  refine (fnDropScope_walk _ _ l0 W (Go.Proofs.YteonncnhhccgeaaW.PrintWords.Kd.C_of_reads (d := (0 : Int)) (h1 := fun _ => rfl) hr0) hc0 y0 hw0).mono fun e W' ⟨he, bel⟩ => ?_
  subst he
  exact ⟨_, rfl, _, _, _, [], _, [], hW', trodAll_mk1 (shut_bool Try.underlying4 _), (trodAll_cons_mk (Below.trod laidOut (by kernel_rfl) (of_decide_eq_true (by kernel_rfl)) k0 bel lt0) trodAll_mk0), rfl, bel.frame _, fun h => by cases h⟩
set_option maxRecDepth 100000 in
theorem closed : joinedFacts Try.prog 8 Try.f8 Rows.fnDropScopeSpec Rows.fnDropScopeRow = true := by
  unfold joinedFacts
  refine Bool.and_eq_true_iff.2 ⟨Bool.and_eq_true_iff.2 ⟨Bool.and_eq_true_iff.2 ⟨Bool.and_eq_true_iff.2 ⟨Bool.and_eq_true_iff.2 ⟨Bool.and_eq_true_iff.2 ⟨Bool.and_eq_true_iff.2 ⟨?_, mayEnter_yes⟩, (congrArg (fun b => Rows.fnDropScopeRow.lifted == b) liftsFinal_no).trans (by kernel_rfl)⟩, (congrArg (fun b => b == some Rows.fnDropScopeRow.make) make_cut).trans (by kernel_rfl)⟩, ?_⟩, ?_⟩, ?_⟩, ?_⟩
  all_goals kernel_rfl
theorem over : Rows.fnDropScopeRow.holds Try.pinned (OpenSpec.ofChange Rows.fnDropScopeSpec) :=
  OpenClaim.holds_of_wide 8 Try.f8 rfl rfl rfl rfl rfl rfl rfl ⟨rfl, rfl, rfl, rfl, rfl⟩ rfl rfl rfl rfl rfl (by kernel_rfl) Try.func8 closed
    (of_decide_eq_true (by kernel_rfl)) (by unfold Func.isWrapper; first | (rw [if_pos (by decide +kernel)]; kernel_rfl) | (rw [if_neg (by decide +kernel)]; exact ⟨rfl, rfl⟩))
    (fun os started H enc _ => lifted os started H enc)
end Go.Proofs.Yteonncnhhccgeaa.fnDropScope
namespace Go.Proofs.Yteonncnhhccgeaa
/-- The row. -/
theorem fnDropScope_holds : Rows.FnDropScopeSaid := fnDropScope.over
#print axioms fnDropScope_holds
end Go.Proofs.Yteonncnhhccgeaa
end
