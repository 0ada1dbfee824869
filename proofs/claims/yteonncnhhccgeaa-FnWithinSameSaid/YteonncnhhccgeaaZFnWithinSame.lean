/- Containment of sets of scopes is by elements. For every input the law FnWithinSame returns true, and leaves its input alone. No condition. -/
import Derived.Below
import Derived.ChangeOld
import Derived.JoinedOf
import Derived.KernelRfl
import Derived.OpenShut
import Derived.ProofKit
import Derived.RowKit3
import Derived.ShutString
import Derived.SizedLaws
import Derived.Test.YteonncnhhccgeaaRows
import Derived.WalkKit
import Derived.Test.YteonncnhhccgeaaPk1
import Derived.Test.YteonncnhhccgeaaPk4
section
namespace Go.Proofs.Yteonncnhhccgeaa
open Go.RowKit Go.Proofs.YteonncnhhccgeaaW.PrintWords Go.Proofs.YteonncnhhccgeaaW.PrintLast Go.Proofs.YteonncnhhccgeaaW.PrintMore
set_option linter.unusedVariables false
set_option linter.unusedSimpArgs false
set_option maxHeartbeats 4000000 in
set_option maxRecDepth 100000 in
theorem fnWithinSame_walk (A0 : Option Addr) (c0 : Nat) (l0 : List Int) (w : World)
    (hr0 : (Kd.int .u8).C w A0 l0.length l0) (hc0 : l0.length ≤ c0) (y0 : l0.length * 1 ≤ 140737488351232) (hw0 : ∀ n ∈ l0, (Lit.int .u8 n).wf = true) :
    Calls Try.prog 4 #[.slice A0 l0.length c0] w fun e w' => e = .returned (.bool true) ∧ Below w.heap.size w w' := by
  by_cases g0 : l0.length ≤ 1048576
  rotate_left
  · have t0 : decide ((l0.length : Int) > 1048576) = true := decide_eq_true (by omega)
    have t0' : decide (1048576 < l0.length) = true := decide_eq_true (by omega)
    go_enter Try.func4, Try.ntmps4
    go_wp2_with fail
    go_ret
    exact ⟨rfl, Below.refl _ _⟩
  obtain ⟨a, b, ha, hb, ma, mb, D0⟩ := drawWithin l0 (fun z hz => byteOk (hw0 z hz))
  replace D0 := Lib.hid D0
  have hanti := Lib.hid (setsW_anti a ma b mb)
  have hna := wB_nil a
  clear ma mb
  have t0 : decide ((l0.length : Int) > 1048576) = false := decide_eq_false (by omega)
  have t0' : decide (1048576 < l0.length) = false := decide_eq_false (by omega)
  go_enter Try.func4, Try.ntmps4
  go_wp2_with fail
  refine (D0.out A0 c0 _ hr0 hc0).mono ?_
  rintro e w1 ⟨aA, ac, bA, bc, rfl, hac, hC, hbc, hC2, b⟩
  have La := Lib.hid hC
  have Lb := Lib.hid hC2
  clear hC hC2
  have BW := Lib.hid b
  clear b
  obtain ⟨p, hab⟩ : ∃ p, wB a b = p := ⟨_, rfl⟩
  obtain ⟨q, hba⟩ : ∃ q, wB b a = q := ⟨_, rfl⟩
  have hpp : (p != p) = false := by simp
  go_wp2_with fail
  refine (implW' hab _ _ _ _ _ La.out hac Lb.out hbc).mono ?_
  rintro e w2 ⟨rfl, b⟩
  replace La := Lib.hid (Kd.C_below La.out b)
  replace Lb := Lib.hid (Kd.C_below Lb.out b)
  replace BW := Lib.hid (below_step BW.out b)
  clear b
  go_wp2_with fail
  refine (implW' hba _ _ _ _ _ Lb.out hbc La.out hac).mono ?_
  rintro e w3 ⟨rfl, b⟩
  replace La := Lib.hid (Kd.C_below La.out b)
  replace Lb := Lib.hid (Kd.C_below Lb.out b)
  replace BW := Lib.hid (below_step BW.out b)
  clear b
  go_wp2_with fail
  refine (specW' hab _ _ _ _ _ La.out hac Lb.out hbc).mono ?_
  rintro e w4 ⟨rfl, b⟩
  replace La := Lib.hid (Kd.C_below La.out b)
  replace Lb := Lib.hid (Kd.C_below Lb.out b)
  replace BW := Lib.hid (below_step BW.out b)
  clear b
  go_wp2_with fail
  have hb0 := below_new w4 (.cells #[] 3)
  refine (implW' hna _ _ _ _ _ (reads_block (blk_new w4 (.cells #[] 3)) (by simp) rfl) (Nat.le_refl _) (Kd.C_below La.out hb0) hac).mono ?_
  rintro e w5 ⟨rfl, b⟩
  replace b := below_step hb0 b
  clear hb0
  replace La := Lib.hid (Kd.C_below La.out b)
  replace Lb := Lib.hid (Kd.C_below Lb.out b)
  replace BW := Lib.hid (below_step BW.out b)
  clear b
  go_wp2_with fail
  go_loopg [7, 8] a.length (fun kq v7 v8 w' => ∃ (i : Nat) (s : Bool), i ≤ a.length ∧ a.length - i ≤ kq ∧ v8 = .int .i64 i ∧ v7 = .bool s ∧ Aside0 (bothB a b i = s) ∧ Aside0 (Below w5.heap.size w5 w'))
  case atStart => exact ⟨0, true, Nat.zero_le _, by omega, rfl, rfl, ⟨bothB_zero a b⟩, ⟨Below.refl _ _⟩⟩
  case round =>
    obtain ⟨i, s, hi, hg, rfl, rfl, HM, HW⟩ := hrel
    replace La := Lib.hid (Kd.C_below La.out HW.out)
    replace Lb := Lib.hid (Kd.C_below Lb.out HW.out)
    replace BW := Lib.hid (below_step BW.out HW.out)
    replace HW := Lib.hid HW.out
    replace HM := Lib.hid HM.out
    by_cases hlt : i < a.length
    · rcases s with _ | _
      · have HM2 := Lib.hid (show bothB a b (i + 1) = false by rw [bothB_next hlt, HM.out]; rfl)
        go_wp2_with fail
        go_roundg (a.length - (i + 1))
        case measure => omega
        case rel => exact ⟨i + 1, false, by omega, Nat.le_refl _, by go_num, rfl, ⟨HM2.out⟩, ⟨HW.out⟩⟩
      · obtain ⟨ad, e, g0⟩ := int_at La.out i hlt
        subst e
        obtain ⟨t, ht⟩ : ∃ t, wB [a[i]] b = t := ⟨_, rfl⟩
        have HM2 := Lib.hid (show bothB a b (i + 1) = t by rw [bothB_next hlt, HM.out, ht]; rfl)
        go_wp2_with fail
        have hb0 := below_new wr (.cells #[.int .i64 a[i]] 3)
        refine (implW' ht _ _ _ _ _ (reads_block (blk_new wr (.cells #[.int .i64 a[i]] 3)) (by simp) rfl) (Nat.le_refl _) (Kd.C_below Lb.out hb0) hbc).mono ?_
        rintro e w6 ⟨rfl, b⟩
        replace b := below_step hb0 b
        clear hb0 g0
        replace La := Lib.hid (Kd.C_below La.out b)
        replace Lb := Lib.hid (Kd.C_below Lb.out b)
        replace HW := Lib.hid (below_step HW.out b)
        replace BW := Lib.hid (below_step BW.out b)
        clear b
        go_wp2_with fail
        go_roundg (a.length - (i + 1))
        case measure => omega
        case rel => exact ⟨i + 1, t, by omega, Nat.le_refl _, by go_num, rfl, ⟨HM2.out⟩, ⟨HW.out⟩⟩
    · obtain rfl : i = a.length := by omega
      have hs : s = p := by rw [← HM.out, bothB_all, hab]
      subst hs
      have hss : (s == s) = true := by simp
      rcases s with _ | _
      · go_wp2_with fail
        go_ret
        exact ⟨rfl, by repeat (first | exact BW.out | refine below_alloc ?_ _)⟩
      · rcases q with _ | _
        · go_wp2_with fail
          go_ret
          exact ⟨rfl, by repeat (first | exact BW.out | refine below_alloc ?_ _)⟩
        · have hlen := hanti.out hab hba
          have hl1 : ((a.length : Int) == (b.length : Int)) = true := by simp [hlen]
          have hl2 : (a.length == b.length) = true := by simp [hlen]
          go_wp2_with fail
          go_ret
          exact ⟨rfl, by repeat (first | exact BW.out | refine below_alloc ?_ _)⟩
end Go.Proofs.Yteonncnhhccgeaa
end
section
namespace Go.Proofs.Yteonncnhhccgeaa.fnWithinSame
open Go.ChangeShapes Go.WideShapes Go.ChangeAt Go.RowKit Go.Proofs.Yteonncnhhccgeaa
open Go.ChangeMaps (open_string shut_string)
set_option linter.unusedVariables false
theorem own : ownKnob Try.prog.godebug = none := by kernel_rfl
theorem laidOut : laidOutB Try.prog = true := by kernel_rfl
def IsRow (k : IntKind) (w : World) (a : Option Addr) (len cap : Nat) (zs : List Int) : Prop :=
  (a = none ∧ len = 0 ∧ cap = 0 ∧ zs = []) ∨
  ∃ x, a = some x ∧ len ≤ cap ∧ cap ≤ maxLen ∧ zs.length = cap ∧ (∀ i, i < zs.length → w.cell? (x.add i) = some (.int k (zs.getD i 0))) ∧ ∀ n ∈ zs, (Lit.int k n).wf = true
set_option maxRecDepth 100000 in
theorem lifted (os : Os) (started : os.Started) (H : Type) (enc : TypeId × Value → H) :
    ReturnsInHanded {} Try.checked os 4 .any (Rows.fnWithinSameSpec.pre6 enc Try.prog Try.f4 Rows.fnWithinSameRow.domain false) (Rows.fnWithinSameSpec.post enc Try.prog Try.f4 false true false false) := by
  refine returnsInHanded_of_change_sized (C := Try.checked) own started (by kernel_rfl) Try.func4
    (ChangeSpec.witness6 (enc := enc) (C := Try.checked) false ⟨#[], #[.slice none 0 0], []⟩ 8 (by kernel_rfl) (by kernel_rfl) (by kernel_rfl) (by kernel_rfl)) ?_
  intro W base args ds gs before hval0 hW hcnd hsz0 _
  have hsz : (DataW.weightsEach Try.prog (Try.f4.params.toList ++ Rows.fnWithinSameSpec.plain.varTypes Try.prog) (ds ++ gs)).all (· ≤ reachBytes) = true := hsz0
  have hval : ∀ (j : Nat) t v, Try.f4.params[j]? = some t → args[j]? = some v → Value.okWide Try.prog W .any base t v := hval0
  have hW' := hW
  obtain ⟨p, q, hA0, hV, rfl, hfz, hnd⟩ := hW
  have hA : DataW.TrodAll enc Try.prog W 0 (fun _ => true) true Try.f4.params.toList args.toList ds p := hA0
  rw [Try.params4] at hA hval hsz
  obtain ⟨v0, vs0, d0, ds0, p0, q0, hargs, rfl, rfl, h0, r0⟩ := trodAll_cons hA
  obtain ⟨rfl, rfl, rfl⟩ := trodAll_nil r0
  obtain rfl : args = #[v0] := by cases args; simp_all
  obtain ⟨rfl, rfl⟩ := trodVars_none hV
  obtain ⟨a0, len0, cap0, rfl⟩ := okWide_slice Try.underlying22 (hval 0 22 v0 rfl rfl)
  have k0 := h0
  have lt0 : ∀ x ∈ p0, x.block < W.heap.size := by obtain ⟨m, hm⟩ := k0; exact DataW.trod_lt m _ _ _ hm
  obtain ⟨z0, w0⟩ : ∃ zs, IsRow .u8 W a0 len0 cap0 zs := by
    obtain ⟨fuel, hf⟩ := h0
    rcases open_ints Try.underlying22 Try.underlying5 (by kernel_rfl) hf with ⟨hcs, _⟩ | ⟨x, l, c, zs, hcs, _, hl, hm, hz, _, hcell, hwz⟩
    · simp [Value.cells] at hcs
      obtain ⟨rfl, rfl, rfl⟩ := hcs
      exact ⟨[], .inl ⟨rfl, rfl, rfl, rfl⟩⟩
    · simp [Value.cells] at hcs
      obtain ⟨rfl, rfl, rfl⟩ := hcs
      exact ⟨zs, .inr ⟨_, rfl, hl, hm, by simpa using hz, hcell, hwz⟩⟩
  have y0 : len0 * 1 ≤ 140737488351232 := Go.Proofs.YteonncnhhccgeaaW.PrintWords.sized_ints hsz (j := 0) (t := 22) rfl rfl Try.underlying22 Try.underlying5 (by kernel_rfl) (by kernel_rfl) h0
  obtain ⟨l0, rfl, hr0, hm0, hw0, hc0⟩ := Go.Proofs.YteonncnhhccgeaaW.PrintWords.ReadsInt.ofRowC w0
  clear hA0 hval0 hsz0 hsz
  refine (fnWithinSame_walk _ _ l0 W (Go.Proofs.YteonncnhhccgeaaW.PrintWords.Kd.C_of_reads (d := (0 : Int)) (h1 := fun _ => rfl) hr0) hc0 y0 hw0).mono fun e W' ⟨he, bel⟩ => ?_
  subst he
  exact ⟨_, rfl, _, _, _, [], _, [], hW', trodAll_mk1 (shut_bool Try.underlying4 _), (trodAll_cons_mk (Below.trod laidOut (by kernel_rfl) (of_decide_eq_true (by kernel_rfl)) k0 bel lt0) trodAll_mk0), rfl, bel.frame _, fun h => by cases h⟩
set_option maxRecDepth 100000 in
theorem closed : joinedFacts Try.prog 4 Try.f4 Rows.fnWithinSameSpec Rows.fnWithinSameRow = true := by
  unfold joinedFacts
  refine Bool.and_eq_true_iff.2 ⟨Bool.and_eq_true_iff.2 ⟨Bool.and_eq_true_iff.2 ⟨Bool.and_eq_true_iff.2 ⟨Bool.and_eq_true_iff.2 ⟨Bool.and_eq_true_iff.2 ⟨Bool.and_eq_true_iff.2 ⟨?_, mayEnter_yes⟩, (congrArg (fun b => Rows.fnWithinSameRow.lifted == b) liftsFinal_no).trans (by kernel_rfl)⟩, (congrArg (fun b => b == some Rows.fnWithinSameRow.make) make_cut).trans (by kernel_rfl)⟩, ?_⟩, ?_⟩, ?_⟩, ?_⟩
  all_goals kernel_rfl
theorem over : Rows.fnWithinSameRow.holds Try.pinned (OpenSpec.ofChange Rows.fnWithinSameSpec) :=
  OpenClaim.holds_of_wide 4 Try.f4 rfl rfl rfl rfl rfl rfl rfl ⟨rfl, rfl, rfl, rfl, rfl⟩ rfl rfl rfl rfl rfl (by kernel_rfl) Try.func4 closed
    (of_decide_eq_true (by kernel_rfl)) (by unfold Func.isWrapper; first | (rw [if_pos (by decide +kernel)]; kernel_rfl) | (rw [if_neg (by decide +kernel)]; exact ⟨rfl, rfl⟩))
    (fun os started H enc _ => lifted os started H enc)
end Go.Proofs.Yteonncnhhccgeaa.fnWithinSame
namespace Go.Proofs.Yteonncnhhccgeaa
/-- The row. -/
theorem fnWithinSame_holds : Rows.FnWithinSameSaid := fnWithinSame.over
#print axioms fnWithinSame_holds
end Go.Proofs.Yteonncnhhccgeaa
end
