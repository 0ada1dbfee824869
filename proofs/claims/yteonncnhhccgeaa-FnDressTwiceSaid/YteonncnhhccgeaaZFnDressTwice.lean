/- A form that has got a name's scopes gets no more of them, and a name has its own. For every input the law FnDressTwice returns true, and leaves its input alone. No condition. -/
import Derived.Below
import Derived.ChangeOld
import Derived.JoinedOf
import Derived.KernelRfl
import Derived.OpenShut
import Derived.ProofKit
import Derived.RowKit3
import Derived.ShutString
import Derived.SizedLaws
import Derived.Test.YteonncnhhccgeaaRows
import Derived.WalkKit
import Derived.Test.YteonncnhhccgeaaPl1
import Derived.Test.YteonncnhhccgeaaPl4
import Derived.Test.YteonncnhhccgeaaPl5
section
namespace Go.Proofs.Yteonncnhhccgeaa
open Go.RowKit Go.Proofs.YteonncnhhccgeaaW.PrintWords Go.Proofs.YteonncnhhccgeaaW.PrintLast Go.Proofs.YteonncnhhccgeaaW.PrintMore
set_option linter.unusedVariables false
set_option linter.unusedSimpArgs false
set_option maxHeartbeats 4000000 in
set_option maxRecDepth 100000 in
theorem fnDressTwice_walk (A0 : Option Addr) (c0 : Nat) (l0 : List Int) (w : World)
    (hr0 : (Kd.int .u8).C w A0 l0.length l0) (hc0 : l0.length ≤ c0) (y0 : l0.length * 1 ≤ 140737488351232) (hw0 : ∀ n ∈ l0, (Lit.int .u8 n).wf = true) :
    Calls Try.prog 22 #[.slice A0 l0.length c0] w fun e w' => e = .returned (.bool true) ∧ Below w.heap.size w w' := by
  by_cases g0 : l0.length ≤ 1048576
  rotate_left
  · have t0 : decide ((l0.length : Int) > 1048576) = true := decide_eq_true (by omega)
    have t0' : decide (1048576 < l0.length) = true := decide_eq_true (by omega)
    go_enter Try.func22, Try.ntmps22
    go_wp2_with fail
    go_ret
    exact ⟨rfl, Below.refl _ _⟩
  obtain ⟨x, m, hx, hm, D0⟩ := drawDress l0 (fun z hz => byteOk (hw0 z hz))
  rcases h1 : dressR m x with ⟨z, b1⟩
  have hz := dressR_tot m x
  rw [h1] at hz
  replace D0 := Lib.hid D0
  have t0 : decide ((l0.length : Int) > 1048576) = false := decide_eq_false (by omega)
  have t0' : decide (1048576 < l0.length) = false := decide_eq_false (by omega)
  go_enter Try.func22, Try.ntmps22
  go_wp2_with fail
  refine (D0.out A0 c0 _ hr0 hc0).mono ?_
  rintro e w1 ⟨X_3, X_c3, X_4, X_c4, M_3, M_c3, M_4, M_c4, rfl, i, j, b⟩
  have I := Lib.hid i
  clear i
  have J := Lib.hid j
  clear j
  have BW := Lib.hid b
  clear b
  have Ix := Lib.hid I.out
  clear I
  have Im := Lib.hid J.out
  clear J
  go_wp2_with fail
  obtain ⟨k, k', b⟩ := two_new (Below.refl ((w1.alloc (.cells #[.int .i64 x.f0, .string x.f1, .int .i64 x.f2, .slice X_3 x.f3.length X_c3, .slice X_4 x.f4.length X_c4] 31)).alloc (.cells #[.int .i64 m.f0, .string m.f1, .int .i64 m.f2, .slice M_3 m.f3.length M_c3, .slice M_4 m.f4.length M_c4] 31)).heap.size ((w1.alloc (.cells #[.int .i64 x.f0, .string x.f1, .int .i64 x.f2, .slice X_3 x.f3.length X_c3, .slice X_4 x.f4.length X_c4] 31)).alloc (.cells #[.int .i64 m.f0, .string m.f1, .int .i64 m.f2, .slice M_3 m.f3.length M_c3, .slice M_4 m.f4.length M_c4] 31)))
  replace Ix := Lib.hid (Ix.out.below b)
  replace Im := Lib.hid (Im.out.below b)
  replace BW := Lib.hid (below_step BW.out b)
  clear b
  have Kx := Lib.hid k
  clear k
  have Km := Lib.hid k'
  clear k'
  generalize ((w1.alloc (.cells #[.int .i64 x.f0, .string x.f1, .int .i64 x.f2, .slice X_3 x.f3.length X_c3, .slice X_4 x.f4.length X_c4] 31)).alloc (.cells #[.int .i64 m.f0, .string m.f1, .int .i64 m.f2, .slice M_3 m.f3.length M_c3, .slice M_4 m.f4.length M_c4] 31)) = wz at Kx Km Ix Im BW ⊢
  refine (implDress' h1 _ _ _ _ _ _ _ _ _ Ix.out Im.out (by omega) (by omega)).mono ?_
  rintro e w2 ⟨Z_3, Z_c3, Z_4, Z_c4, rfl, i, b⟩
  have I := Lib.hid i
  clear i
  replace Kx := Lib.hid (blk_below Kx.out b)
  replace Km := Lib.hid (blk_below Km.out b)
  replace Ix := Lib.hid (Ix.out.below b)
  replace Im := Lib.hid (Im.out.below b)
  replace BW := Lib.hid (below_step BW.out b)
  clear b
  have Iz := Lib.hid I.out
  clear I
  obtain ⟨p0, p1, p2, p3, p4⟩ := fm_cells (blk_below Kx.out (below_new w2 (.cells #[.int .i64 z.f0, .string z.f1, .int .i64 z.f2, .slice Z_3 z.f3.length Z_c3, .slice Z_4 z.f4.length Z_c4] 31)))
  obtain ⟨q0, q1, q2, q3, q4⟩ := fm_cells (blk_below Km.out (below_new w2 (.cells #[.int .i64 z.f0, .string z.f1, .int .i64 z.f2, .slice Z_3 z.f3.length Z_c3, .slice Z_4 z.f4.length Z_c4] 31)))
  go_wp2_with fail
  clear p0 p1 p2 p3 p4 q0 q1 q2 q3 q4
  refine (specDress' h1 _ _ _ _ _ _ _ _ _ (Ix.out.below (below_new _ _)) (Im.out.below (below_new _ _)) (by omega) (by omega)).mono ?_
  rintro e w3 ⟨U_3, U_c3, U_4, U_c4, rfl, i, b⟩
  have I := Lib.hid i
  clear i
  obtain ⟨k, b⟩ := one_new b
  replace Kx := Lib.hid (blk_below Kx.out b)
  replace Km := Lib.hid (blk_below Km.out b)
  replace Ix := Lib.hid (Ix.out.below b)
  replace Im := Lib.hid (Im.out.below b)
  replace Iz := Lib.hid (Iz.out.below b)
  replace BW := Lib.hid (below_step BW.out b)
  have Kz := Lib.hid k
  clear k
  clear b
  have Iu := Lib.hid I.out
  clear I
  obtain ⟨p0, p1, p2, p3, p4⟩ := fm_cells (blk_below Kz.out (below_new w3 (.cells #[.int .i64 z.f0, .string z.f1, .int .i64 z.f2, .slice U_3 z.f3.length U_c3, .slice U_4 z.f4.length U_c4] 31)))
  go_wp2_with fail
  clear p0 p1 p2 p3 p4
  refine (sameT z _ _ _ _ _ _ _ _ _ (Iz.out.below (below_new _ _)) (Iu.out.below (below_new _ _))).mono ?_
  rintro e w4 ⟨rfl, b⟩
  obtain ⟨k, b⟩ := one_new b
  replace Kx := Lib.hid (blk_below Kx.out b)
  replace Km := Lib.hid (blk_below Km.out b)
  replace Kz := Lib.hid (blk_below Kz.out b)
  replace Ix := Lib.hid (Ix.out.below b)
  replace Im := Lib.hid (Im.out.below b)
  replace Iz := Lib.hid (Iz.out.below b)
  replace Iu := Lib.hid (Iu.out.below b)
  replace BW := Lib.hid (below_step BW.out b)
  have Ku := Lib.hid k
  clear k
  clear b
  rcases b1 with _ | _
  · obtain ⟨p0, p1, p2, p3, p4⟩ := fm_cells Kz.out
    obtain ⟨q0, q1, q2, q3, q4⟩ := fm_cells Ku.out
    go_wp2_with fail
    clear p0 p1 p2 p3 p4 q0 q1 q2 q3 q4
    refine (sameT z _ _ _ _ _ _ _ _ _ Iz.out Iu.out).mono ?_
    rintro e w5 ⟨rfl, b⟩
    replace Kx := Lib.hid (blk_below Kx.out b)
    replace Km := Lib.hid (blk_below Km.out b)
    replace Kz := Lib.hid (blk_below Kz.out b)
    replace Ku := Lib.hid (blk_below Ku.out b)
    replace Ix := Lib.hid (Ix.out.below b)
    replace Im := Lib.hid (Im.out.below b)
    replace Iz := Lib.hid (Iz.out.below b)
    replace Iu := Lib.hid (Iu.out.below b)
    replace BW := Lib.hid (below_step BW.out b)
    clear b
    go_wp2_with fail
    go_ret
    exact ⟨rfl, by repeat (first | exact BW.out | refine below_alloc ?_ _)⟩
  · have h2 := dress_again h1
    obtain ⟨h3, hsm⟩ := dress_self h1
    obtain ⟨p0, p1, p2, p3, p4⟩ := fm_cells Kz.out
    obtain ⟨q0, q1, q2, q3, q4⟩ := fm_cells Km.out
    go_wp2_with fail
    clear p0 p1 p2 p3 p4 q0 q1 q2 q3 q4
    refine (implDress' h2 _ _ _ _ _ _ _ _ _ Iz.out Im.out (by omega) (by omega)).mono ?_
    rintro e w5 ⟨T_3, T_c3, T_4, T_c4, rfl, i, b⟩
    have I := Lib.hid i
    clear i
    replace Kx := Lib.hid (blk_below Kx.out b)
    replace Km := Lib.hid (blk_below Km.out b)
    replace Kz := Lib.hid (blk_below Kz.out b)
    replace Ku := Lib.hid (blk_below Ku.out b)
    replace Ix := Lib.hid (Ix.out.below b)
    replace Im := Lib.hid (Im.out.below b)
    replace Iz := Lib.hid (Iz.out.below b)
    replace Iu := Lib.hid (Iu.out.below b)
    replace BW := Lib.hid (below_step BW.out b)
    clear b
    have It := Lib.hid I.out
    clear I
    obtain ⟨p0, p1, p2, p3, p4⟩ := fm_cells (blk_below Km.out (below_new w5 (.cells #[.int .i64 z.f0, .string z.f1, .int .i64 z.f2, .slice T_3 z.f3.length T_c3, .slice T_4 z.f4.length T_c4] 31)))
    go_wp2_with fail
    clear p0 p1 p2 p3 p4
    refine (implDress' h3 _ _ _ _ _ _ _ _ _ (Im.out.below (below_new _ _)) (Im.out.below (below_new _ _)) (by omega) (by omega)).mono ?_
    rintro e w6 ⟨O_3, O_c3, O_4, O_c4, rfl, i, b⟩
    have I := Lib.hid i
    clear i
    obtain ⟨k, b⟩ := one_new b
    replace Kx := Lib.hid (blk_below Kx.out b)
    replace Km := Lib.hid (blk_below Km.out b)
    replace Kz := Lib.hid (blk_below Kz.out b)
    replace Ku := Lib.hid (blk_below Ku.out b)
    replace Ix := Lib.hid (Ix.out.below b)
    replace Im := Lib.hid (Im.out.below b)
    replace Iz := Lib.hid (Iz.out.below b)
    replace Iu := Lib.hid (Iu.out.below b)
    replace It := Lib.hid (It.out.below b)
    replace BW := Lib.hid (below_step BW.out b)
    have Kt := Lib.hid k
    clear k
    clear b
    have Io := Lib.hid I.out
    clear I
    obtain ⟨p0, p1, p2, p3, p4⟩ := fm_cells (blk_below Kt.out (below_new w6 (.cells #[.int .i64 m.f0, .string m.f1, .int .i64 m.f2, .slice O_3 m.f3.length O_c3, .slice O_4 m.f4.length O_c4] 31)))
    obtain ⟨q0, q1, q2, q3, q4⟩ := fm_cells (blk_below Kz.out (below_new w6 (.cells #[.int .i64 m.f0, .string m.f1, .int .i64 m.f2, .slice O_3 m.f3.length O_c3, .slice O_4 m.f4.length O_c4] 31)))
    go_wp2_with fail
    clear p0 p1 p2 p3 p4 q0 q1 q2 q3 q4
    refine (sameT z _ _ _ _ _ _ _ _ _ (It.out.below (below_new _ _)) (Iz.out.below (below_new _ _))).mono ?_
    rintro e w7 ⟨rfl, b⟩
    obtain ⟨k, b⟩ := one_new b
    replace Kx := Lib.hid (blk_below Kx.out b)
    replace Km := Lib.hid (blk_below Km.out b)
    replace Kz := Lib.hid (blk_below Kz.out b)
    replace Ku := Lib.hid (blk_below Ku.out b)
    replace Kt := Lib.hid (blk_below Kt.out b)
    replace Ix := Lib.hid (Ix.out.below b)
    replace Im := Lib.hid (Im.out.below b)
    replace Iz := Lib.hid (Iz.out.below b)
    replace Iu := Lib.hid (Iu.out.below b)
    replace It := Lib.hid (It.out.below b)
    replace Io := Lib.hid (Io.out.below b)
    replace BW := Lib.hid (below_step BW.out b)
    have Ko := Lib.hid k
    clear k
    clear b
    obtain ⟨p0, p1, p2, p3, p4⟩ := fm_cells Ko.out
    obtain ⟨q0, q1, q2, q3, q4⟩ := fm_cells Km.out
    go_wp2_with fail
    clear p0 p1 p2 p3 p4 q0 q1 q2 q3 q4
    refine (implSm' hsm _ _ _ _ _ _ _ _ _ Io.out Im.out (by omega) (by omega)).mono ?_
    rintro e w8 ⟨rfl, b⟩
    replace Kx := Lib.hid (blk_below Kx.out b)
    replace Km := Lib.hid (blk_below Km.out b)
    replace Kz := Lib.hid (blk_below Kz.out b)
    replace Ku := Lib.hid (blk_below Ku.out b)
    replace Kt := Lib.hid (blk_below Kt.out b)
    replace Ko := Lib.hid (blk_below Ko.out b)
    replace Ix := Lib.hid (Ix.out.below b)
    replace Im := Lib.hid (Im.out.below b)
    replace Iz := Lib.hid (Iz.out.below b)
    replace Iu := Lib.hid (Iu.out.below b)
    replace It := Lib.hid (It.out.below b)
    replace Io := Lib.hid (Io.out.below b)
    replace BW := Lib.hid (below_step BW.out b)
    clear b
    go_wp2_with fail
    go_ret
    exact ⟨rfl, by repeat (first | exact BW.out | refine below_alloc ?_ _)⟩
end Go.Proofs.Yteonncnhhccgeaa
end
section
namespace Go.Proofs.Yteonncnhhccgeaa.fnDressTwice
open Go.ChangeShapes Go.WideShapes Go.ChangeAt Go.RowKit Go.Proofs.Yteonncnhhccgeaa
open Go.ChangeMaps (open_string shut_string)
set_option linter.unusedVariables false
theorem own : ownKnob Try.prog.godebug = none := by kernel_rfl
theorem laidOut : laidOutB Try.prog = true := by kernel_rfl
def IsRow (k : IntKind) (w : World) (a : Option Addr) (len cap : Nat) (zs : List Int) : Prop :=
  (a = none ∧ len = 0 ∧ cap = 0 ∧ zs = []) ∨
  ∃ x, a = some x ∧ len ≤ cap ∧ cap ≤ maxLen ∧ zs.length = cap ∧ (∀ i, i < zs.length → w.cell? (x.add i) = some (.int k (zs.getD i 0))) ∧ ∀ n ∈ zs, (Lit.int k n).wf = true
set_option maxRecDepth 100000 in
theorem lifted (os : Os) (started : os.Started) (H : Type) (enc : TypeId × Value → H) :
    ReturnsInHanded {} Try.checked os 22 .any (Rows.fnDressTwiceSpec.pre6 enc Try.prog Try.f22 Rows.fnDressTwiceRow.domain false) (Rows.fnDressTwiceSpec.post enc Try.prog Try.f22 false true false false) := by
  refine returnsInHanded_of_change_sized (C := Try.checked) own started (by kernel_rfl) Try.func22
    (ChangeSpec.witness6 (enc := enc) (C := Try.checked) false ⟨#[], #[.slice none 0 0], []⟩ 8 (by kernel_rfl) (by kernel_rfl) (by kernel_rfl) (by kernel_rfl)) ?_
  intro W base args ds gs before hval0 hW hcnd hsz0 _
  have hsz : (DataW.weightsEach Try.prog (Try.f22.params.toList ++ Rows.fnDressTwiceSpec.plain.varTypes Try.prog) (ds ++ gs)).all (· ≤ reachBytes) = true := hsz0
  have hval : ∀ (j : Nat) t v, Try.f22.params[j]? = some t → args[j]? = some v → Value.okWide Try.prog W .any base t v := hval0
  have hW' := hW
  obtain ⟨p, q, hA0, hV, rfl, hfz, hnd⟩ := hW
  have hA : DataW.TrodAll enc Try.prog W 0 (fun _ => true) true Try.f22.params.toList args.toList ds p := hA0
  rw [Try.params22] at hA hval hsz
  obtain ⟨v0, vs0, d0, ds0, p0, q0, hargs, rfl, rfl, h0, r0⟩ := trodAll_cons hA
  obtain ⟨rfl, rfl, rfl⟩ := trodAll_nil r0
  obtain rfl : args = #[v0] := by cases args; simp_all
  obtain ⟨rfl, rfl⟩ := trodVars_none hV
  obtain ⟨a0, len0, cap0, rfl⟩ := okWide_slice Try.underlying22 (hval 0 22 v0 rfl rfl)
  have k0 := h0
  have lt0 : ∀ x ∈ p0, x.block < W.heap.size := by obtain ⟨m, hm⟩ := k0; exact DataW.trod_lt m _ _ _ hm
  obtain ⟨z0, w0⟩ : ∃ zs, IsRow .u8 W a0 len0 cap0 zs := by
    obtain ⟨fuel, hf⟩ := h0
    rcases open_ints Try.underlying22 Try.underlying5 (by kernel_rfl) hf with ⟨hcs, _⟩ | ⟨x, l, c, zs, hcs, _, hl, hm, hz, _, hcell, hwz⟩
    · simp [Value.cells] at hcs
      obtain ⟨rfl, rfl, rfl⟩ := hcs
      exact ⟨[], .inl ⟨rfl, rfl, rfl, rfl⟩⟩
    · simp [Value.cells] at hcs
      obtain ⟨rfl, rfl, rfl⟩ := hcs
      exact ⟨zs, .inr ⟨_, rfl, hl, hm, by simpa using hz, hcell, hwz⟩⟩
  have y0 : len0 * 1 ≤ 140737488351232 := Go.Proofs.YteonncnhhccgeaaW.PrintWords.sized_ints hsz (j := 0) (t := 22) rfl rfl Try.underlying22 Try.underlying5 (by kernel_rfl) (by kernel_rfl) h0
  obtain ⟨l0, rfl, hr0, hm0, hw0, hc0⟩ := Go.Proofs.YteonncnhhccgeaaW.PrintWords.ReadsInt.ofRowC w0
  clear hA0 hval0 hsz0 hsz
  refine (fnDressTwice_walk _ _ l0 W (Go.Proofs.YteonncnhhccgeaaW.PrintWords.Kd.C_of_reads (d := (0 : Int)) (h1 := fun _ => rfl) hr0) hc0 y0 hw0).mono fun e W' ⟨he, bel⟩ => ?_
  subst he
  exact ⟨_, rfl, _, _, _, [], _, [], hW', trodAll_mk1 (shut_bool Try.underlying4 _), (trodAll_cons_mk (Below.trod laidOut (by kernel_rfl) (of_decide_eq_true (by kernel_rfl)) k0 bel lt0) trodAll_mk0), rfl, bel.frame _, fun h => by cases h⟩
set_option maxRecDepth 100000 in
theorem closed : joinedFacts Try.prog 22 Try.f22 Rows.fnDressTwiceSpec Rows.fnDressTwiceRow = true := by
  unfold joinedFacts
  refine Bool.and_eq_true_iff.2 ⟨Bool.and_eq_true_iff.2 ⟨Bool.and_eq_true_iff.2 ⟨Bool.and_eq_true_iff.2 ⟨Bool.and_eq_true_iff.2 ⟨Bool.and_eq_true_iff.2 ⟨Bool.and_eq_true_iff.2 ⟨?_, mayEnter_yes⟩, (congrArg (fun b => Rows.fnDressTwiceRow.lifted == b) liftsFinal_no).trans (by kernel_rfl)⟩, (congrArg (fun b => b == some Rows.fnDressTwiceRow.make) make_cut).trans (by kernel_rfl)⟩, ?_⟩, ?_⟩, ?_⟩, ?_⟩
  all_goals kernel_rfl
theorem over : Rows.fnDressTwiceRow.holds Try.pinned (OpenSpec.ofChange Rows.fnDressTwiceSpec) :=
  OpenClaim.holds_of_wide 22 Try.f22 rfl rfl rfl rfl rfl rfl rfl ⟨rfl, rfl, rfl, rfl, rfl⟩ rfl rfl rfl rfl rfl (by kernel_rfl) Try.func22 closed
    (of_decide_eq_true (by kernel_rfl)) (by unfold Func.isWrapper; first | (rw [if_pos (by decide +kernel)]; kernel_rfl) | (rw [if_neg (by decide +kernel)]; exact ⟨rfl, rfl⟩))
    (fun os started H enc _ => lifted os started H enc)
end Go.Proofs.Yteonncnhhccgeaa.fnDressTwice
namespace Go.Proofs.Yteonncnhhccgeaa
/-- The row. -/
theorem fnDressTwice_holds : Rows.FnDressTwiceSaid := fnDressTwice.over
#print axioms fnDressTwice_holds
end Go.Proofs.Yteonncnhhccgeaa
end
