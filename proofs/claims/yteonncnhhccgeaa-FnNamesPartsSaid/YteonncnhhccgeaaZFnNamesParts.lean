/- The names of a form's parts are names of the form. For every input the law FnNamesParts returns true, and leaves its input alone. No condition. -/
import Derived.Below
import Derived.ChangeOld
import Derived.JoinedOf
import Derived.KernelRfl
import Derived.OpenShut
import Derived.ProofKit
import Derived.RowKit3
import Derived.ShutString
import Derived.SizedLaws
import Derived.Test.YteonncnhhccgeaaRows
import Derived.WalkKit
import Derived.Test.YteonncnhhccgeaaPk1
import Derived.Test.YteonncnhhccgeaaPk4
import Derived.Test.YteonncnhhccgeaaPk5
section
namespace Go.Proofs.Yteonncnhhccgeaa
open Go.RowKit Go.Proofs.YteonncnhhccgeaaW.PrintWords Go.Proofs.YteonncnhhccgeaaW.PrintLast Go.Proofs.YteonncnhhccgeaaW.PrintMore
set_option linter.unusedVariables false
set_option linter.unusedSimpArgs false
set_option maxHeartbeats 4000000 in
set_option maxRecDepth 100000 in
theorem fnNamesParts_walk (A0 : Option Addr) (c0 : Nat) (l0 : List Int) (w : World)
    (hr0 : (Kd.int .u8).C w A0 l0.length l0) (hc0 : l0.length ≤ c0) (y0 : l0.length * 1 ≤ 140737488351232) (hw0 : ∀ n ∈ l0, (Lit.int .u8 n).wf = true) :
    Calls Try.prog 7 #[.slice A0 l0.length c0] w fun e w' => e = .returned (.bool true) ∧ Below w.heap.size w w' := by
  by_cases g0 : l0.length ≤ 1048576
  rotate_left
  · have t0 : decide ((l0.length : Int) > 1048576) = true := decide_eq_true (by omega)
    have t0' : decide (1048576 < l0.length) = true := decide_eq_true (by omega)
    go_enter Try.func7, Try.ntmps7
    go_wp2_with fail
    go_ret
    exact ⟨rfl, Below.refl _ _⟩
  obtain ⟨x, hx, D0⟩ := drawNames l0 (fun z hz => byteOk (hw0 z hz))
  replace D0 := Lib.hid D0
  have hxl : x.f4.length ≤ 7000 := by have := len_totL x.f4; have := x.tot_eq; omega
  have hxs : x.size ≤ 7001 := by have := sizes_totL x; omega
  obtain ⟨l, hl⟩ : ∃ l, namesN x = l := ⟨_, rfl⟩
  have hls : l.length ≤ x.size := hl ▸ names_len x
  have HKD := Lib.hid (fun (k : Fm) (hk : k ∈ x.f4) => And.intro (show k.tot ≤ 7000 from by have := totL_mem hk; have := x.tot_eq; omega) (hl ▸ names_kid hk : ∀ n, n ∈ namesN k → n ∈ l))
  have HNM := Lib.hid (fun h1 : x.f0 = 1 => (hl ▸ names_self h1 : x.f1 ∈ l))
  have t0 : decide ((l0.length : Int) > 1048576) = false := decide_eq_false (by omega)
  have t0' : decide (1048576 < l0.length) = false := decide_eq_false (by omega)
  go_enter Try.func7, Try.ntmps7
  go_wp2_with fail
  refine (D0.out A0 c0 _ hr0 hc0).mono ?_
  rintro e w1 ⟨X_3, X_c3, X_4, X_c4, rfl, i, b⟩
  have I := Lib.hid i
  clear i
  have BW := Lib.hid b
  clear b
  have Ix := Lib.hid I.out
  clear I
  go_wp2_with fail
  refine (implNm' hl _ _ _ _ _ (Ix.out.below (below_new _ _)) (by omega)).mono ?_
  rintro e w2 ⟨lA, lc, rfl, hlc_, hC, b⟩
  have Ll := Lib.hid hC
  clear hC
  obtain ⟨k, b⟩ := one_new b
  replace Ix := Lib.hid (Ix.out.below b)
  replace BW := Lib.hid (below_step BW.out b)
  have Kx := Lib.hid k
  clear k
  clear b
  obtain ⟨p0, p1, p2, p3, p4⟩ := fm_cells Kx.out
  go_wp2_with fail
  clear p0 p1 p2 p3 p4
  refine (specNm' hl _ _ _ _ _ Ix.out (by omega)).mono ?_
  rintro e w3 ⟨sA, sc, rfl, hsc_, hC, b⟩
  have Ls := Lib.hid hC
  clear hC
  replace Kx := Lib.hid (blk_below Kx.out b)
  replace Ix := Lib.hid (Ix.out.below b)
  replace Ll := Lib.hid (Kd.C_below Ll.out b)
  replace BW := Lib.hid (below_step BW.out b)
  clear b
  go_wp2_with fail
  refine (mxTexts' (decide_eq_true rfl) _ _ _ _ _ Ll.out hlc_ Ls.out hsc_).mono ?_
  rintro e w4 ⟨rfl, b⟩
  replace Kx := Lib.hid (blk_below Kx.out b)
  replace Ix := Lib.hid (Ix.out.below b)
  replace Ll := Lib.hid (Kd.C_below Ll.out b)
  replace Ls := Lib.hid (Kd.C_below Ls.out b)
  replace BW := Lib.hid (below_step BW.out b)
  clear b
  obtain ⟨p0, p1, p2, p3, p4⟩ := fm_cells Kx.out
  go_wp2_with fail
  clear p0 p1 p2 p3 p4
  go_loopg [5, 6, 7] x.f4.length (fun kq v5 v6 v7 w' => ∃ i : Nat, i ≤ x.f4.length ∧ x.f4.length - i ≤ kq ∧ v5 = .int .i64 i ∧ Aside0 (Below w4.heap.size w4 w'))
  case atStart => exact ⟨0, Nat.zero_le _, by omega, rfl, ⟨Below.refl _ _⟩⟩
  case round =>
    obtain ⟨i, hi, hg, rfl, HW⟩ := hrel
    replace Kx := Lib.hid (blk_below Kx.out HW.out)
    replace Ix := Lib.hid (Ix.out.below HW.out)
    replace Ll := Lib.hid (Kd.C_below Ll.out HW.out)
    replace Ls := Lib.hid (Kd.C_below Ls.out HW.out)
    replace BW := Lib.hid (below_step BW.out HW.out)
    replace HW := Lib.hid HW.out
    obtain ⟨p0, p1, p2, p3, p4⟩ := fm_cells Kx.out
    by_cases hlti : i < x.f4.length
    · clear p0 p1 p2 p3 p4
      obtain ⟨hk1, hk2⟩ := HKD.out _ (List.getElem_mem hlti)
      obtain ⟨ad, B3, d3, B4, d4, e, g0, g1, g2, g3, g4, hk⟩ := kid_at Ix.out.g4 i hlti
      have HE := Lib.hid hk
      subst e
      clear hk
      obtain ⟨m, hm⟩ : ∃ m, namesN x.f4[i] = m := ⟨_, rfl⟩
      rw [hm] at hk2
      replace hk2 := Lib.hid hk2
      have hms : m.length ≤ 7001 := by rw [← hm]; have := names_len x.f4[i]; have := sizes_totL x.f4[i]; omega
      obtain ⟨p0, p1, p2, p3, p4⟩ := fm_cells Kx.out
      go_wp2_with fail
      clear p0 p1 p2 p3 p4
      clear g0 g1 g2 g3 g4
      refine (implNm' hm _ _ _ _ _ HE.out (by omega)).mono ?_
      rintro e w5 ⟨mA, mc, rfl, hmc_, hC, b⟩
      have Lm := Lib.hid hC
      clear hC
      replace Kx := Lib.hid (blk_below Kx.out b)
      replace Ix := Lib.hid (Ix.out.below b)
      replace Ll := Lib.hid (Kd.C_below Ll.out b)
      replace Ls := Lib.hid (Kd.C_below Ls.out b)
      replace HW := Lib.hid (below_step HW.out b)
      replace BW := Lib.hid (below_step BW.out b)
      clear b
      go_wp2_with fail
      go_loopg [7] m.length (fun kq v7 w' => ∃ j : Nat, j ≤ m.length ∧ m.length - j ≤ kq ∧ v7 = .int .i64 j ∧ Aside0 (Below w5.heap.size w5 w'))
      case atStart => exact ⟨0, Nat.zero_le _, by omega, rfl, ⟨Below.refl _ _⟩⟩
      case round =>
        obtain ⟨j, hij, hgj, rfl, HV⟩ := hrel
        replace Kx := Lib.hid (blk_below Kx.out HV.out)
        replace Ix := Lib.hid (Ix.out.below HV.out)
        replace Ll := Lib.hid (Kd.C_below Ll.out HV.out)
        replace Ls := Lib.hid (Kd.C_below Ls.out HV.out)
        replace HW := Lib.hid (below_step HW.out HV.out)
        replace Lm := Lib.hid (Kd.C_below Lm.out HV.out)
        replace BW := Lib.hid (below_step BW.out HV.out)
        replace HV := Lib.hid HV.out
        by_cases hltj : j < m.length
        · obtain ⟨ad2, e2, g0⟩ := str_at Lm.out j hltj
          subst e2
          have hmem : decide (m[j] ∈ l) = true := decide_eq_true (hk2.out _ (List.getElem_mem hltj))
          go_wp2_with fail
          clear g0
          refine (mxHasText' hmem _ _ _ Ll.out hlc_).mono ?_
          rintro e w6 ⟨rfl, b⟩
          replace Kx := Lib.hid (blk_below Kx.out b)
          replace Ix := Lib.hid (Ix.out.below b)
          replace Ll := Lib.hid (Kd.C_below Ll.out b)
          replace Ls := Lib.hid (Kd.C_below Ls.out b)
          replace HW := Lib.hid (below_step HW.out b)
          replace Lm := Lib.hid (Kd.C_below Lm.out b)
          replace HV := Lib.hid (below_step HV.out b)
          replace BW := Lib.hid (below_step BW.out b)
          clear b
          go_wp2_with fail
          go_roundg (m.length - (j + 1))
          case measure => omega
          case rel => exact ⟨j + 1, by omega, Nat.le_refl _, by go_num, ⟨HV.out⟩⟩
        · obtain rfl : j = m.length := by omega
          go_wp2_with fail
          go_roundg (x.f4.length - (i + 1))
          case measure => omega
          case rel => exact ⟨i + 1, by omega, Nat.le_refl _, by go_num, ⟨HW.out⟩⟩
    · obtain rfl : i = x.f4.length := by omega
      clear p0 p1 p2 p3 p4
      by_cases h1 : x.f0 = 1
      · have t1 : (x.f0 == 1) = true := beq_iff_eq.mpr h1
        have t2 : (x.f0 != 1) = false := by rw [h1]; rfl
        have hd3 : decide (x.f1 ∈ l) = true := decide_eq_true (HNM.out h1)
        clear h1
        obtain ⟨p0, p1, p2, p3, p4⟩ := fm_cells Kx.out
        go_wp2_with fail
        clear p0 p1 p2 p3 p4
        refine (mxHasText' hd3 _ _ _ Ll.out hlc_).mono ?_
        rintro e w5 ⟨rfl, b⟩
        replace Kx := Lib.hid (blk_below Kx.out b)
        replace Ix := Lib.hid (Ix.out.below b)
        replace Ll := Lib.hid (Kd.C_below Ll.out b)
        replace Ls := Lib.hid (Kd.C_below Ls.out b)
        replace HW := Lib.hid (below_step HW.out b)
        replace BW := Lib.hid (below_step BW.out b)
        clear b
        go_wp2_with fail
        go_ret
        exact ⟨rfl, by repeat (first | exact BW.out | refine below_alloc ?_ _)⟩
      · have t1 : (x.f0 == 1) = false := beq_eq_false_iff_ne.mpr h1
        have t2 : (x.f0 != 1) = true := by simpa using h1
        clear h1
        obtain ⟨p0, p1, p2, p3, p4⟩ := fm_cells Kx.out
        go_wp2_with fail
        clear p0 p1 p2 p3 p4
        go_ret
        exact ⟨rfl, by repeat (first | exact BW.out | refine below_alloc ?_ _)⟩
end Go.Proofs.Yteonncnhhccgeaa
end
section
namespace Go.Proofs.Yteonncnhhccgeaa.fnNamesParts
open Go.ChangeShapes Go.WideShapes Go.ChangeAt Go.RowKit Go.Proofs.Yteonncnhhccgeaa
open Go.ChangeMaps (open_string shut_string)
set_option linter.unusedVariables false
theorem own : ownKnob Try.prog.godebug = none := by kernel_rfl
theorem laidOut : laidOutB Try.prog = true := by kernel_rfl
def IsRow (k : IntKind) (w : World) (a : Option Addr) (len cap : Nat) (zs : List Int) : Prop :=
  (a = none ∧ len = 0 ∧ cap = 0 ∧ zs = []) ∨
  ∃ x, a = some x ∧ len ≤ cap ∧ cap ≤ maxLen ∧ zs.length = cap ∧ (∀ i, i < zs.length → w.cell? (x.add i) = some (.int k (zs.getD i 0))) ∧ ∀ n ∈ zs, (Lit.int k n).wf = true
set_option maxRecDepth 100000 in
theorem lifted (os : Os) (started : os.Started) (H : Type) (enc : TypeId × Value → H) :
    ReturnsInHanded {} Try.checked os 7 .any (Rows.fnNamesPartsSpec.pre6 enc Try.prog Try.f7 Rows.fnNamesPartsRow.domain false) (Rows.fnNamesPartsSpec.post enc Try.prog Try.f7 false true false false) := by
  refine returnsInHanded_of_change_sized (C := Try.checked) own started (by kernel_rfl) Try.func7
    (ChangeSpec.witness6 (enc := enc) (C := Try.checked) false ⟨#[], #[.slice none 0 0], []⟩ 8 (by kernel_rfl) (by kernel_rfl) (by kernel_rfl) (by kernel_rfl)) ?_
  intro W base args ds gs before hval0 hW hcnd hsz0 _
  have hsz : (DataW.weightsEach Try.prog (Try.f7.params.toList ++ Rows.fnNamesPartsSpec.plain.varTypes Try.prog) (ds ++ gs)).all (· ≤ reachBytes) = true := hsz0
  have hval : ∀ (j : Nat) t v, Try.f7.params[j]? = some t → args[j]? = some v → Value.okWide Try.prog W .any base t v := hval0
  have hW' := hW
  obtain ⟨p, q, hA0, hV, rfl, hfz, hnd⟩ := hW
  have hA : DataW.TrodAll enc Try.prog W 0 (fun _ => true) true Try.f7.params.toList args.toList ds p := hA0
  rw [Try.params7] at hA hval hsz
  obtain ⟨v0, vs0, d0, ds0, p0, q0, hargs, rfl, rfl, h0, r0⟩ := trodAll_cons hA
  obtain ⟨rfl, rfl, rfl⟩ := trodAll_nil r0
  obtain rfl : args = #[v0] := by cases args; simp_all
  obtain ⟨rfl, rfl⟩ := trodVars_none hV
  obtain ⟨a0, len0, cap0, rfl⟩ := okWide_slice Try.underlying22 (hval 0 22 v0 rfl rfl)
  have k0 := h0
  have lt0 : ∀ x ∈ p0, x.block < W.heap.size := by obtain ⟨m, hm⟩ := k0; exact DataW.trod_lt m _ _ _ hm
  obtain ⟨z0, w0⟩ : ∃ zs, IsRow .u8 W a0 len0 cap0 zs := by
    obtain ⟨fuel, hf⟩ := h0
    rcases open_ints Try.underlying22 Try.underlying5 (by kernel_rfl) hf with ⟨hcs, _⟩ | ⟨x, l, c, zs, hcs, _, hl, hm, hz, _, hcell, hwz⟩
    · simp [Value.cells] at hcs
      obtain ⟨rfl, rfl, rfl⟩ := hcs
      exact ⟨[], .inl ⟨rfl, rfl, rfl, rfl⟩⟩
    · simp [Value.cells] at hcs
      obtain ⟨rfl, rfl, rfl⟩ := hcs
      exact ⟨zs, .inr ⟨_, rfl, hl, hm, by simpa using hz, hcell, hwz⟩⟩
  have y0 : len0 * 1 ≤ 140737488351232 := Go.Proofs.YteonncnhhccgeaaW.PrintWords.sized_ints hsz (j := 0) (t := 22) rfl rfl Try.underlying22 Try.underlying5 (by kernel_rfl) (by kernel_rfl) h0
  obtain ⟨l0, rfl, hr0, hm0, hw0, hc0⟩ := Go.Proofs.YteonncnhhccgeaaW.PrintWords.ReadsInt.ofRowC w0
  clear hA0 hval0 hsz0 hsz
  refine (fnNamesParts_walk _ _ l0 W (Go.Proofs.YteonncnhhccgeaaW.PrintWords.Kd.C_of_reads (d := (0 : Int)) (h1 := fun _ => rfl) hr0) hc0 y0 hw0).mono fun e W' ⟨he, bel⟩ => ?_
  subst he
  exact ⟨_, rfl, _, _, _, [], _, [], hW', trodAll_mk1 (shut_bool Try.underlying4 _), (trodAll_cons_mk (Below.trod laidOut (by kernel_rfl) (of_decide_eq_true (by kernel_rfl)) k0 bel lt0) trodAll_mk0), rfl, bel.frame _, fun h => by cases h⟩
set_option maxRecDepth 100000 in
theorem closed : joinedFacts Try.prog 7 Try.f7 Rows.fnNamesPartsSpec Rows.fnNamesPartsRow = true := by
  unfold joinedFacts
  refine Bool.and_eq_true_iff.2 ⟨Bool.and_eq_true_iff.2 ⟨Bool.and_eq_true_iff.2 ⟨Bool.and_eq_true_iff.2 ⟨Bool.and_eq_true_iff.2 ⟨Bool.and_eq_true_iff.2 ⟨Bool.and_eq_true_iff.2 ⟨?_, mayEnter_yes⟩, (congrArg (fun b => Rows.fnNamesPartsRow.lifted == b) liftsFinal_no).trans (by kernel_rfl)⟩, (congrArg (fun b => b == some Rows.fnNamesPartsRow.make) make_cut).trans (by kernel_rfl)⟩, ?_⟩, ?_⟩, ?_⟩, ?_⟩
  all_goals kernel_rfl
theorem over : Rows.fnNamesPartsRow.holds Try.pinned (OpenSpec.ofChange Rows.fnNamesPartsSpec) :=
  OpenClaim.holds_of_wide 7 Try.f7 rfl rfl rfl rfl rfl rfl rfl ⟨rfl, rfl, rfl, rfl, rfl⟩ rfl rfl rfl rfl rfl (by kernel_rfl) Try.func7 closed
    (of_decide_eq_true (by kernel_rfl)) (by unfold Func.isWrapper; first | (rw [if_pos (by decide +kernel)]; kernel_rfl) | (rw [if_neg (by decide +kernel)]; exact ⟨rfl, rfl⟩))
    (fun os started H enc _ => lifted os started H enc)
end Go.Proofs.Yteonncnhhccgeaa.fnNamesParts
namespace Go.Proofs.Yteonncnhhccgeaa
/-- The row. -/
theorem fnNamesParts_holds : Rows.FnNamesPartsSaid := fnNamesParts.over
#print axioms fnNamesParts_holds
end Go.Proofs.Yteonncnhhccgeaa
end
