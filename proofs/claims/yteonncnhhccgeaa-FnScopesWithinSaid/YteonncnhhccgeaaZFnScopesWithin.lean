/- Containment of sets of scopes is an order. For every input the law FnScopesWithin returns true, and leaves its input alone. No condition. -/
import Derived.Below
import Derived.ChangeOld
import Derived.JoinedOf
import Derived.KernelRfl
import Derived.OpenShut
import Derived.ProofKit
import Derived.RowKit3
import Derived.ShutString
import Derived.SizedLaws
import Derived.Test.YteonncnhhccgeaaRows
import Derived.WalkKit
import Derived.Test.YteonncnhhccgeaaPk1
import Derived.Test.YteonncnhhccgeaaPk4
section
namespace Go.Proofs.Yteonncnhhccgeaa
open Go.RowKit Go.Proofs.YteonncnhhccgeaaW.PrintWords Go.Proofs.YteonncnhhccgeaaW.PrintLast Go.Proofs.YteonncnhhccgeaaW.PrintMore
set_option linter.unusedVariables false
set_option linter.unusedSimpArgs false
set_option maxHeartbeats 4000000 in
set_option maxRecDepth 100000 in
theorem fnScopesWithin_walk (A0 : Option Addr) (c0 : Nat) (l0 : List Int) (A1 : Option Addr) (c1 : Nat) (l1 : List Int) (w : World)
    (hr0 : (Kd.int .u8).C w A0 l0.length l0) (hc0 : l0.length ≤ c0) (y0 : l0.length * 1 ≤ 140737488351232) (hw0 : ∀ n ∈ l0, (Lit.int .u8 n).wf = true)
    (hr1 : (Kd.int .u8).C w A1 l1.length l1) (hc1 : l1.length ≤ c1) (y1 : l1.length * 1 ≤ 140737488351232) (hw1 : ∀ n ∈ l1, (Lit.int .u8 n).wf = true) :
    Calls Try.prog 3 #[.slice A0 l0.length c0, .slice A1 l1.length c1] w fun e w' => e = .returned (.bool true) ∧ Below w.heap.size w w' := by
  by_cases g0 : l0.length ≤ 1048576
  rotate_left
  · have t0 : decide ((l0.length : Int) > 1048576) = true := decide_eq_true (by omega)
    have t0' : decide (1048576 < l0.length) = true := decide_eq_true (by omega)
    go_enter Try.func3, Try.ntmps3
    go_wp2_with fail
    go_ret
    exact ⟨rfl, Below.refl _ _⟩
  by_cases g1 : l1.length ≤ 1048576
  rotate_left
  · have t0 : decide ((l0.length : Int) > 1048576) = false := decide_eq_false (by omega)
    have t0' : decide (1048576 < l0.length) = false := decide_eq_false (by omega)
    have t1 : decide ((l1.length : Int) > 1048576) = true := decide_eq_true (by omega)
    have t1' : decide (1048576 < l1.length) = true := decide_eq_true (by omega)
    go_enter Try.func3, Try.ntmps3
    go_wp2_with fail
    go_ret
    exact ⟨rfl, Below.refl _ _⟩
  obtain ⟨a, b, ha, hb, ma, mb, D0⟩ := drawWithin l0 (fun z hz => byteOk (hw0 z hz))
  obtain ⟨d, c, hd, hcl, md, mc, D1⟩ := drawWithin l1 (fun z hz => byteOk (hw1 z hz))
  replace D0 := Lib.hid D0
  replace D1 := Lib.hid D1
  clear ma mb md mc
  have haa := wB_self a
  have t0 : decide ((l0.length : Int) > 1048576) = false := decide_eq_false (by omega)
  have t0' : decide (1048576 < l0.length) = false := decide_eq_false (by omega)
  have t1 : decide ((l1.length : Int) > 1048576) = false := decide_eq_false (by omega)
  have t1' : decide (1048576 < l1.length) = false := decide_eq_false (by omega)
  go_enter Try.func3, Try.ntmps3
  go_wp2_with fail
  refine (D0.out A0 c0 _ hr0 hc0).mono ?_
  rintro e w1 ⟨aA, ac, bA, bc, rfl, hac, hC, hbc, hC2, b⟩
  have La := Lib.hid hC
  have Lb := Lib.hid hC2
  clear hC hC2
  have BW := Lib.hid b
  clear b
  go_wp2_with fail
  refine (D1.out A1 c1 _ (Kd.C_below hr1 BW.out) hc1).mono ?_
  rintro e w2 ⟨dA, dc, cA, cc, rfl, hdc, hC, hcc, hC2, b⟩
  have Ld := Lib.hid hC
  have Lc := Lib.hid hC2
  clear hC hC2
  replace La := Lib.hid (Kd.C_below La.out b)
  replace Lb := Lib.hid (Kd.C_below Lb.out b)
  replace BW := Lib.hid (below_step BW.out b)
  clear b
  rcases hab : wB a b with _ | _
  · go_wp2_with fail
    refine (implW' hab _ _ _ _ _ La.out hac Lb.out hbc).mono ?_
    rintro e w3 ⟨rfl, b⟩
    replace La := Lib.hid (Kd.C_below La.out b)
    replace Lb := Lib.hid (Kd.C_below Lb.out b)
    replace Ld := Lib.hid (Kd.C_below Ld.out b)
    replace Lc := Lib.hid (Kd.C_below Lc.out b)
    replace BW := Lib.hid (below_step BW.out b)
    clear b
    go_wp2_with fail
    refine (specW' hab _ _ _ _ _ La.out hac Lb.out hbc).mono ?_
    rintro e w4 ⟨rfl, b⟩
    replace La := Lib.hid (Kd.C_below La.out b)
    replace Lb := Lib.hid (Kd.C_below Lb.out b)
    replace Ld := Lib.hid (Kd.C_below Ld.out b)
    replace Lc := Lib.hid (Kd.C_below Lc.out b)
    replace BW := Lib.hid (below_step BW.out b)
    clear b
    go_wp2_with fail
    refine (implW' haa _ _ _ _ _ La.out hac La.out hac).mono ?_
    rintro e w5 ⟨rfl, b⟩
    replace La := Lib.hid (Kd.C_below La.out b)
    replace Lb := Lib.hid (Kd.C_below Lb.out b)
    replace Ld := Lib.hid (Kd.C_below Ld.out b)
    replace Lc := Lib.hid (Kd.C_below Lc.out b)
    replace BW := Lib.hid (below_step BW.out b)
    clear b
    go_wp2_with fail
    go_ret
    exact ⟨rfl, by repeat (first | exact BW.out | refine below_alloc ?_ _)⟩
  · go_wp2_with fail
    refine (implW' hab _ _ _ _ _ La.out hac Lb.out hbc).mono ?_
    rintro e w3 ⟨rfl, b⟩
    replace La := Lib.hid (Kd.C_below La.out b)
    replace Lb := Lib.hid (Kd.C_below Lb.out b)
    replace Ld := Lib.hid (Kd.C_below Ld.out b)
    replace Lc := Lib.hid (Kd.C_below Lc.out b)
    replace BW := Lib.hid (below_step BW.out b)
    clear b
    go_wp2_with fail
    refine (specW' hab _ _ _ _ _ La.out hac Lb.out hbc).mono ?_
    rintro e w4 ⟨rfl, b⟩
    replace La := Lib.hid (Kd.C_below La.out b)
    replace Lb := Lib.hid (Kd.C_below Lb.out b)
    replace Ld := Lib.hid (Kd.C_below Ld.out b)
    replace Lc := Lib.hid (Kd.C_below Lc.out b)
    replace BW := Lib.hid (below_step BW.out b)
    clear b
    go_wp2_with fail
    refine (implW' haa _ _ _ _ _ La.out hac La.out hac).mono ?_
    rintro e w5 ⟨rfl, b⟩
    replace La := Lib.hid (Kd.C_below La.out b)
    replace Lb := Lib.hid (Kd.C_below Lb.out b)
    replace Ld := Lib.hid (Kd.C_below Ld.out b)
    replace Lc := Lib.hid (Kd.C_below Lc.out b)
    replace BW := Lib.hid (below_step BW.out b)
    clear b
    rcases kbc : wB b c with _ | _
    · go_wp2_with fail
      refine (implW' kbc _ _ _ _ _ Lb.out hbc Lc.out hcc).mono ?_
      rintro e w6 ⟨rfl, b⟩
      replace La := Lib.hid (Kd.C_below La.out b)
      replace Lb := Lib.hid (Kd.C_below Lb.out b)
      replace Ld := Lib.hid (Kd.C_below Ld.out b)
      replace Lc := Lib.hid (Kd.C_below Lc.out b)
      replace BW := Lib.hid (below_step BW.out b)
      clear b
      go_wp2_with fail
      go_ret
      exact ⟨rfl, by repeat (first | exact BW.out | refine below_alloc ?_ _)⟩
    · have kac := wB_trans hab kbc
      go_wp2_with fail
      refine (implW' kbc _ _ _ _ _ Lb.out hbc Lc.out hcc).mono ?_
      rintro e w6 ⟨rfl, b⟩
      replace La := Lib.hid (Kd.C_below La.out b)
      replace Lb := Lib.hid (Kd.C_below Lb.out b)
      replace Ld := Lib.hid (Kd.C_below Ld.out b)
      replace Lc := Lib.hid (Kd.C_below Lc.out b)
      replace BW := Lib.hid (below_step BW.out b)
      clear b
      go_wp2_with fail
      refine (implW' kac _ _ _ _ _ La.out hac Lc.out hcc).mono ?_
      rintro e w7 ⟨rfl, b⟩
      replace La := Lib.hid (Kd.C_below La.out b)
      replace Lb := Lib.hid (Kd.C_below Lb.out b)
      replace Ld := Lib.hid (Kd.C_below Ld.out b)
      replace Lc := Lib.hid (Kd.C_below Lc.out b)
      replace BW := Lib.hid (below_step BW.out b)
      clear b
      go_wp2_with fail
      go_ret
      exact ⟨rfl, by repeat (first | exact BW.out | refine below_alloc ?_ _)⟩
end Go.Proofs.Yteonncnhhccgeaa
end
section
namespace Go.Proofs.Yteonncnhhccgeaa.fnScopesWithin
open Go.ChangeShapes Go.WideShapes Go.ChangeAt Go.RowKit Go.Proofs.Yteonncnhhccgeaa
open Go.ChangeMaps (open_string shut_string)
set_option linter.unusedVariables false
theorem own : ownKnob Try.prog.godebug = none := by kernel_rfl
theorem laidOut : laidOutB Try.prog = true := by kernel_rfl
def IsRow (k : IntKind) (w : World) (a : Option Addr) (len cap : Nat) (zs : List Int) : Prop :=
  (a = none ∧ len = 0 ∧ cap = 0 ∧ zs = []) ∨
  ∃ x, a = some x ∧ len ≤ cap ∧ cap ≤ maxLen ∧ zs.length = cap ∧ (∀ i, i < zs.length → w.cell? (x.add i) = some (.int k (zs.getD i 0))) ∧ ∀ n ∈ zs, (Lit.int k n).wf = true
set_option maxRecDepth 100000 in
theorem lifted (os : Os) (started : os.Started) (H : Type) (enc : TypeId × Value → H) :
    ReturnsInHanded {} Try.checked os 3 .any (Rows.fnScopesWithinSpec.pre6 enc Try.prog Try.f3 Rows.fnScopesWithinRow.domain false) (Rows.fnScopesWithinSpec.post enc Try.prog Try.f3 false true false false) := by
  refine returnsInHanded_of_change_sized (C := Try.checked) own started (by kernel_rfl) Try.func3
    (ChangeSpec.witness6 (enc := enc) (C := Try.checked) false ⟨#[], #[.slice none 0 0, .slice none 0 0], []⟩ 8 (by kernel_rfl) (by kernel_rfl) (by kernel_rfl) (by kernel_rfl)) ?_
  intro W base args ds gs before hval0 hW hcnd hsz0 _
  have hsz : (DataW.weightsEach Try.prog (Try.f3.params.toList ++ Rows.fnScopesWithinSpec.plain.varTypes Try.prog) (ds ++ gs)).all (· ≤ reachBytes) = true := hsz0
  have hval : ∀ (j : Nat) t v, Try.f3.params[j]? = some t → args[j]? = some v → Value.okWide Try.prog W .any base t v := hval0
  have hW' := hW
  obtain ⟨p, q, hA0, hV, rfl, hfz, hnd⟩ := hW
  have hA : DataW.TrodAll enc Try.prog W 0 (fun _ => true) true Try.f3.params.toList args.toList ds p := hA0
  rw [Try.params3] at hA hval hsz
  obtain ⟨v0, vs0, d0, ds0, p0, q0, hargs, rfl, rfl, h0, r0⟩ := trodAll_cons hA
  obtain ⟨v1, vs1, d1, ds1, p1, q1, rfl, rfl, rfl, h1, r1⟩ := trodAll_cons r0
  obtain ⟨rfl, rfl, rfl⟩ := trodAll_nil r1
  obtain rfl : args = #[v0, v1] := by cases args; simp_all
  obtain ⟨rfl, rfl⟩ := trodVars_none hV
  obtain ⟨a0, len0, cap0, rfl⟩ := okWide_slice Try.underlying22 (hval 0 22 v0 rfl rfl)
  have k0 := h0
  have lt0 : ∀ x ∈ p0, x.block < W.heap.size := by obtain ⟨m, hm⟩ := k0; exact DataW.trod_lt m _ _ _ hm
  obtain ⟨z0, w0⟩ : ∃ zs, IsRow .u8 W a0 len0 cap0 zs := by
    obtain ⟨fuel, hf⟩ := h0
    rcases open_ints Try.underlying22 Try.underlying5 (by kernel_rfl) hf with ⟨hcs, _⟩ | ⟨x, l, c, zs, hcs, _, hl, hm, hz, _, hcell, hwz⟩
    · simp [Value.cells] at hcs
      obtain ⟨rfl, rfl, rfl⟩ := hcs
      exact ⟨[], .inl ⟨rfl, rfl, rfl, rfl⟩⟩
    · simp [Value.cells] at hcs
      obtain ⟨rfl, rfl, rfl⟩ := hcs
      exact ⟨zs, .inr ⟨_, rfl, hl, hm, by simpa using hz, hcell, hwz⟩⟩
  have y0 : len0 * 1 ≤ 140737488351232 := Go.Proofs.YteonncnhhccgeaaW.PrintWords.sized_ints hsz (j := 0) (t := 22) rfl rfl Try.underlying22 Try.underlying5 (by kernel_rfl) (by kernel_rfl) h0
  obtain ⟨l0, rfl, hr0, hm0, hw0, hc0⟩ := Go.Proofs.YteonncnhhccgeaaW.PrintWords.ReadsInt.ofRowC w0
  obtain ⟨a1, len1, cap1, rfl⟩ := okWide_slice Try.underlying22 (hval 1 22 v1 rfl rfl)
  have k1 := h1
  have lt1 : ∀ x ∈ p1, x.block < W.heap.size := by obtain ⟨m, hm⟩ := k1; exact DataW.trod_lt m _ _ _ hm
  obtain ⟨z1, w1⟩ : ∃ zs, IsRow .u8 W a1 len1 cap1 zs := by
    obtain ⟨fuel, hf⟩ := h1
    rcases open_ints Try.underlying22 Try.underlying5 (by kernel_rfl) hf with ⟨hcs, _⟩ | ⟨x, l, c, zs, hcs, _, hl, hm, hz, _, hcell, hwz⟩
    · simp [Value.cells] at hcs
      obtain ⟨rfl, rfl, rfl⟩ := hcs
      exact ⟨[], .inl ⟨rfl, rfl, rfl, rfl⟩⟩
    · simp [Value.cells] at hcs
      obtain ⟨rfl, rfl, rfl⟩ := hcs
      exact ⟨zs, .inr ⟨_, rfl, hl, hm, by simpa using hz, hcell, hwz⟩⟩
  have y1 : len1 * 1 ≤ 140737488351232 := Go.Proofs.YteonncnhhccgeaaW.PrintWords.sized_ints hsz (j := 1) (t := 22) rfl rfl Try.underlying22 Try.underlying5 (by kernel_rfl) (by kernel_rfl) h1
  obtain ⟨l1, rfl, hr1, hm1, hw1, hc1⟩ := Go.Proofs.YteonncnhhccgeaaW.PrintWords.ReadsInt.ofRowC w1
  clear hA0 hval0 hsz0 hsz
  refine (fnScopesWithin_walk _ _ l0 _ _ l1 W (Go.Proofs.YteonncnhhccgeaaW.PrintWords.Kd.C_of_reads (d := (0 : Int)) (h1 := fun _ => rfl) hr0) hc0 y0 hw0 (Go.Proofs.YteonncnhhccgeaaW.PrintWords.Kd.C_of_reads (d := (0 : Int)) (h1 := fun _ => rfl) hr1) hc1 y1 hw1).mono fun e W' ⟨he, bel⟩ => ?_
  subst he
  exact ⟨_, rfl, _, _, _, [], _, [], hW', trodAll_mk1 (shut_bool Try.underlying4 _), (trodAll_cons_mk (Below.trod laidOut (by kernel_rfl) (of_decide_eq_true (by kernel_rfl)) k0 bel lt0) (trodAll_cons_mk (Below.trod laidOut (by kernel_rfl) (of_decide_eq_true (by kernel_rfl)) k1 bel lt1) trodAll_mk0)), rfl, bel.frame _, fun h => by cases h⟩
set_option maxRecDepth 100000 in
theorem closed : joinedFacts Try.prog 3 Try.f3 Rows.fnScopesWithinSpec Rows.fnScopesWithinRow = true := by
  unfold joinedFacts
  refine Bool.and_eq_true_iff.2 ⟨Bool.and_eq_true_iff.2 ⟨Bool.and_eq_true_iff.2 ⟨Bool.and_eq_true_iff.2 ⟨Bool.and_eq_true_iff.2 ⟨Bool.and_eq_true_iff.2 ⟨Bool.and_eq_true_iff.2 ⟨?_, mayEnter_yes⟩, (congrArg (fun b => Rows.fnScopesWithinRow.lifted == b) liftsFinal_no).trans (by kernel_rfl)⟩, (congrArg (fun b => b == some Rows.fnScopesWithinRow.make) make_cut).trans (by kernel_rfl)⟩, ?_⟩, ?_⟩, ?_⟩, ?_⟩
  all_goals kernel_rfl
theorem over : Rows.fnScopesWithinRow.holds Try.pinned (OpenSpec.ofChange Rows.fnScopesWithinSpec) :=
  OpenClaim.holds_of_wide 3 Try.f3 rfl rfl rfl rfl rfl rfl rfl ⟨rfl, rfl, rfl, rfl, rfl⟩ rfl rfl rfl rfl rfl (by kernel_rfl) Try.func3 closed
    (of_decide_eq_true (by kernel_rfl)) (by unfold Func.isWrapper; first | (rw [if_pos (by decide +kernel)]; kernel_rfl) | (rw [if_neg (by decide +kernel)]; exact ⟨rfl, rfl⟩))
    (fun os started H enc _ => lifted os started H enc)
end Go.Proofs.Yteonncnhhccgeaa.fnScopesWithin
namespace Go.Proofs.Yteonncnhhccgeaa
/-- The row. -/
theorem fnScopesWithin_holds : Rows.FnScopesWithinSaid := fnScopesWithin.over
#print axioms fnScopesWithin_holds
end Go.Proofs.Yteonncnhhccgeaa
end
