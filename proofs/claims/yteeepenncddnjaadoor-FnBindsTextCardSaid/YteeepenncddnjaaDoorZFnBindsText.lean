/- Valid bindings are printed on a line each. For every input the law FnBindsText returns true, and leaves its input alone, where the table of powers of ten is laid. -/
import Derived.Below
import Derived.ChangeOld
import Derived.JoinedOf
import Derived.KernelRfl
import Derived.LaidMore
import Derived.OpenShut
import Derived.ProofKit
import Derived.RowKit3
import Derived.SevenTiedAt
import Derived.ShutString
import Derived.SizedLaws
import Derived.Test.YteeepenncddnjaaDoorCards
import Derived.Test.YteeepenncddnjaaDoorRows
import Derived.Test.YteeepenncddnjaaDoorTie
import Derived.WalkKit
import Derived.Test.YteeepenncddnjaaDoorKd1
import Derived.Test.YteeepenncddnjaaDoorKd4
section
namespace Go.Proofs.YteeepenncddnjaaDoor
open Go.RowKit Go.Proofs.YteeepenncddnjaaDoorW.PrintWords Go.Proofs.YteeepenncddnjaaDoorW.PrintLast Go.Proofs.YteeepenncddnjaaDoorW.PrintMore
set_option linter.unusedVariables false
set_option linter.unusedSimpArgs false
set_option maxHeartbeats 4000000 in
set_option maxRecDepth 100000 in
theorem fnBindsText_walk (A0 : Option Addr) (c0 : Nat) (l0 : List Int) (w : World)
    (hr0 : (Kd.int .u8).C w A0 l0.length l0) (hc0 : l0.length ≤ c0) (y0 : l0.length * 1 ≤ 140737488351232) (hw0 : ∀ n ∈ l0, (Lit.int .u8 n).wf = true) (htab : TabP w) :
    Calls Tryd.prog 5 #[.slice A0 l0.length c0] w fun e w' => e = .returned (.bool true) ∧ Below w.heap.size w w' := by
  by_cases g0 : l0.length ≤ 1048576
  rotate_left
  · have t0 : decide ((l0.length : Int) > 1048576) = true := decide_eq_true (by omega)
    have t0' : decide (1048576 < l0.length) = true := decide_eq_true (by omega)
    go_enter Tryd.func5, Tryd.ntmps5
    go_wp2_with fail
    go_ret
    exact ⟨rfl, Below.refl _ _⟩
  obtain ⟨bl, hbl, D0⟩ := dDrawFormatBinds l0 (fun z hz => byteOk (hw0 z hz))
  replace D0 := Lib.hid D0
  have HTB := Lib.hid (fun W (hb : Below w.heap.size w W) => htab.below hb)
  clear htab
  have hsm := hbl.B (by omega)
  have hbl1 := hbl.1
  have HSM := Lib.hid hsm
  obtain ⟨s, hs⟩ : ∃ s, fmtB bl = s := ⟨_, rfl⟩
  have hss : s.size ≤ 100000 := hs ▸ fmtB_size bl
  have HF := Lib.hid hs
  have hsb : (s.toList == s.toList) = true := beq_self_eq_true _
  clear hsm hbl hs
  have t0 : decide ((l0.length : Int) > 1048576) = false := decide_eq_false (by omega)
  have t0' : decide (1048576 < l0.length) = false := decide_eq_false (by omega)
  go_enter Tryd.func5, Tryd.ntmps5
  go_wp2_with fail
  refine (D0.out A0 c0 _ hr0 hc0).mono ?_
  rintro e w1 ⟨lA, lc, rfl, hcl, hCl, b⟩
  have Ll := Lib.hid hCl
  have hlc_ := Lib.hid hcl
  clear hCl hcl
  have BW := Lib.hid b
  clear b
  rcases h1 : pB (BdsOk bl) with _ | _
  · have H1 := Lib.hid h1
    have hn1 := fmtB_none HF.out h1
    clear h1
    go_wp2_with fail
    refine (dFI _ HF.out HSM.out _ _ _ Ll.out hlc_.out (HTB.out _ BW.out)).mono ?_
    rintro e w2 ⟨rfl, b⟩
    replace Ll := Lib.hid (Kd.C_below Ll.out b)
    replace BW := Lib.hid (below_step BW.out b)
    clear b
    go_wp2_with fail
    refine (dBV _ H1.out HSM.out _ _ _ Ll.out hlc_.out).mono ?_
    rintro e w3 ⟨rfl, b⟩
    replace Ll := Lib.hid (Kd.C_below Ll.out b)
    replace BW := Lib.hid (below_step BW.out b)
    clear b
    go_wp2_with fail
    refine (dFS _ HF.out HSM.out _ _ _ Ll.out hlc_.out).mono ?_
    rintro e w4 ⟨rfl, b⟩
    replace Ll := Lib.hid (Kd.C_below Ll.out b)
    replace BW := Lib.hid (below_step BW.out b)
    clear b
    go_wp2_with fail
    refine (dSV _ H1.out HSM.out _ _ _ Ll.out hlc_.out).mono ?_
    rintro e w5 ⟨rfl, b⟩
    replace Ll := Lib.hid (Kd.C_below Ll.out b)
    replace BW := Lib.hid (below_step BW.out b)
    clear b
    go_wp2_with fail
    refine (dFS _ HF.out HSM.out _ _ _ Ll.out hlc_.out).mono ?_
    rintro e w6 ⟨rfl, b⟩
    replace Ll := Lib.hid (Kd.C_below Ll.out b)
    replace BW := Lib.hid (below_step BW.out b)
    clear b
    go_wp2_with fail
    refine (dSV _ H1.out HSM.out _ _ _ Ll.out hlc_.out).mono ?_
    rintro e w7 ⟨rfl, b⟩
    replace Ll := Lib.hid (Kd.C_below Ll.out b)
    replace BW := Lib.hid (below_step BW.out b)
    clear b
    go_wp2_with fail
    go_ret
    exact ⟨rfl, by repeat (first | exact BW.out | refine below_alloc ?_ _)⟩
  · have H1 := Lib.hid h1
    have HN := Lib.hid (fmtB_lines HF.out (pB_iff.1 h1))
    clear h1
    go_wp2_with fail
    refine (dFI _ HF.out HSM.out _ _ _ Ll.out hlc_.out (HTB.out _ BW.out)).mono ?_
    rintro e w2 ⟨rfl, b⟩
    replace Ll := Lib.hid (Kd.C_below Ll.out b)
    replace BW := Lib.hid (below_step BW.out b)
    clear b
    go_wp2_with fail
    refine (dBV _ H1.out HSM.out _ _ _ Ll.out hlc_.out).mono ?_
    rintro e w3 ⟨rfl, b⟩
    replace Ll := Lib.hid (Kd.C_below Ll.out b)
    replace BW := Lib.hid (below_step BW.out b)
    clear b
    go_wp2_with fail
    refine (dFS _ HF.out HSM.out _ _ _ Ll.out hlc_.out).mono ?_
    rintro e w4 ⟨rfl, b⟩
    replace Ll := Lib.hid (Kd.C_below Ll.out b)
    replace BW := Lib.hid (below_step BW.out b)
    clear b
    go_wp2_with fail
    refine (dSV _ H1.out HSM.out _ _ _ Ll.out hlc_.out).mono ?_
    rintro e w5 ⟨rfl, b⟩
    replace Ll := Lib.hid (Kd.C_below Ll.out b)
    replace BW := Lib.hid (below_step BW.out b)
    clear b
    go_wp2_with fail
    go_loopg [6, 7] s.size (fun kq v6 v7 w' => ∃ i m : Nat, i ≤ s.size ∧ s.size - i ≤ kq ∧ v7 = .int .i64 i ∧ v6 = .int .i64 m ∧ m ≤ i ∧ Aside0 (m = cntS s i) ∧ Aside0 (Below w5.heap.size w5 w'))
    case atStart => exact ⟨0, 0, Nat.zero_le _, by omega, rfl, rfl, Nat.le_refl _, ⟨by simp [cntS, nl]⟩, ⟨Below.refl _ _⟩⟩
    case round =>
      obtain ⟨i, m, hi, hg, rfl, rfl, hmi, HM, HW⟩ := hrel
      replace Ll := Lib.hid (Kd.C_below Ll.out HW.out)
      replace BW := Lib.hid (below_step BW.out HW.out)
      replace HW := Lib.hid HW.out
      by_cases hlt : i < s.size
      · have HX := Lib.hid (cntS_next s i hlt)
        obtain ⟨hb2, hb3⟩ := byte_lt s i hlt
        by_cases h10 : s[i].toNat = 10
        · have hb1 : ((s[i].toNat : Int) == 10) = true := by rw [beq_iff_eq]; omega
          replace HX := Lib.hid (show m + 1 = cntS s (i + 1) by rw [HX.out, if_pos h10, HM.out])
          clear h10
          go_wp2_with fail
          go_roundg (s.size - (i + 1))
          case measure => omega
          case rel => exact ⟨i + 1, m + 1, by omega, Nat.le_refl _, by go_num, by go_num, by omega, ⟨HX.out⟩, ⟨HW.out⟩⟩
        · have hb1 : ((s[i].toNat : Int) == 10) = false := by rw [beq_eq_false_iff_ne]; omega
          replace HX := Lib.hid (show m = cntS s (i + 1) by rw [HX.out, if_neg h10, Nat.add_zero, HM.out])
          clear h10
          go_wp2_with fail
          go_roundg (s.size - (i + 1))
          case measure => omega
          case rel => exact ⟨i + 1, m, by omega, Nat.le_refl _, by go_num, rfl, by omega, ⟨HX.out⟩, ⟨HW.out⟩⟩
      · obtain rfl : i = s.size := by omega
        have hm2 : m = bl.length := HM.out.trans HN.out
        subst hm2
        have he1 : ((bl.length : Int) == (bl.length : Int)) = true := beq_self_eq_true _
        go_wp2_with fail
        go_ret
        exact ⟨rfl, by repeat (first | exact BW.out | refine below_alloc ?_ _)⟩
end Go.Proofs.YteeepenncddnjaaDoor
end
section
namespace Go.Proofs.YteeepenncddnjaaDoor.fnBindsText
open Go.ChangeShapes Go.WideShapes Go.ChangeAt Go.RowKit Go.Proofs.YteeepenncddnjaaDoor
open Go.ChangeMaps (open_string shut_string)
set_option linter.unusedVariables false
theorem own : ownKnob Tryd.prog.godebug = none := by kernel_rfl
theorem laidOut : laidOutB Tryd.prog = true := by kernel_rfl
def IsRow (k : IntKind) (w : World) (a : Option Addr) (len cap : Nat) (zs : List Int) : Prop :=
  (a = none ∧ len = 0 ∧ cap = 0 ∧ zs = []) ∨
  ∃ x, a = some x ∧ len ≤ cap ∧ cap ≤ maxLen ∧ zs.length = cap ∧ (∀ i, i < zs.length → w.cell? (x.add i) = some (.int k (zs.getD i 0))) ∧ ∀ n ∈ zs, (Lit.int k n).wf = true
set_option maxRecDepth 100000 in
theorem lifted (os : Os) (started : os.Started) (H : Type) (enc : TypeId × Value → H) :
    ReturnsInHanded {} Tryd.checked os 5 .any (fun w args => (Rows.fnBindsTextSpec.pre enc Tryd.prog Tryd.f5 [] false w args ∧ laidMetH Tryd.prog laid3 w) ∧ sizedMet enc Tryd.prog Tryd.f5 (OpenSpec.ofChange Rows.fnBindsTextSpec) false w args) (Rows.fnBindsTextSpec.post enc Tryd.prog Tryd.f5 false true false false) := by
  refine returnsInHanded_of_change_and (C := Tryd.checked) (X := fun w _ => laidMetH Tryd.prog laid3 w) (fun _ _ _ hh h => h.of_heap hh) own started (by kernel_rfl) Tryd.func5
    (ChangeSpec.witness_shaped (enc := enc) (C := Tryd.checked) (os := os) (X := fun w _ => laidMetH Tryd.prog laid3 w) false (World.doorLaid Tryd.prog 400 os) #[.slice none 0 0] 8 rfl (World.shaped_of_RefB (by kernel_rfl) (by kernel_rfl)) (by kernel_rfl) (by kernel_rfl) (by kernel_rfl) (door_met os _)) ?_
  intro W base args ds gs before hval0 hW hcnd hsz0 hL _
  have hsz : (DataW.weightsEach Tryd.prog (Tryd.f5.params.toList ++ Rows.fnBindsTextSpec.plain.varTypes Tryd.prog) (ds ++ gs)).all (· ≤ reachBytes) = true := hsz0
  have hval : ∀ (j : Nat) t v, Tryd.f5.params[j]? = some t → args[j]? = some v → Value.okWide Tryd.prog W .any base t v := hval0
  have hW' := hW
  obtain ⟨p, q, hA0, hV, rfl, hfz, hnd⟩ := hW
  have hA : DataW.TrodAll enc Tryd.prog W 0 (fun _ => true) true Tryd.f5.params.toList args.toList ds p := hA0
  rw [Tryd.params5] at hA hval hsz
  obtain ⟨v0, vs0, d0, ds0, p0, q0, hargs, rfl, rfl, h0, r0⟩ := trodAll_cons hA
  obtain ⟨rfl, rfl, rfl⟩ := trodAll_nil r0
  obtain rfl : args = #[v0] := by cases args; simp_all
  obtain ⟨rfl, rfl⟩ := trodVars_none hV
  obtain ⟨a0, len0, cap0, rfl⟩ := okWide_slice Tryd.underlying22 (hval 0 22 v0 rfl rfl)
  have k0 := h0
  have lt0 : ∀ x ∈ p0, x.block < W.heap.size := by obtain ⟨m, hm⟩ := k0; exact DataW.trod_lt m _ _ _ hm
  obtain ⟨z0, w0⟩ : ∃ zs, IsRow .u8 W a0 len0 cap0 zs := by
    obtain ⟨fuel, hf⟩ := h0
    rcases open_ints Tryd.underlying22 Tryd.underlying5 (by kernel_rfl) hf with ⟨hcs, _⟩ | ⟨x, l, c, zs, hcs, _, hl, hm, hz, _, hcell, hwz⟩
    · simp [Value.cells] at hcs
      obtain ⟨rfl, rfl, rfl⟩ := hcs
      exact ⟨[], .inl ⟨rfl, rfl, rfl, rfl⟩⟩
    · simp [Value.cells] at hcs
      obtain ⟨rfl, rfl, rfl⟩ := hcs
      exact ⟨zs, .inr ⟨_, rfl, hl, hm, by simpa using hz, hcell, hwz⟩⟩
  have y0 : len0 * 1 ≤ 140737488351232 := Go.Proofs.YteeepenncddnjaaDoorW.PrintWords.sized_ints hsz (j := 0) (t := 22) rfl rfl Tryd.underlying22 Tryd.underlying5 (by kernel_rfl) (by kernel_rfl) h0
  obtain ⟨l0, rfl, hr0, hm0, hw0, hc0⟩ := Go.Proofs.YteeepenncddnjaaDoorW.PrintWords.ReadsInt.ofRowC w0
  clear hA0 hval0 hsz0 hsz
  refine (fnBindsText_walk _ _ l0 W (Go.Proofs.YteeepenncddnjaaDoorW.PrintWords.Kd.C_of_reads (d := (0 : Int)) (h1 := fun _ => rfl) hr0) hc0 y0 hw0 (tab_of hL)).mono fun e W' ⟨he, bel⟩ => ?_
  subst he
  exact ⟨_, rfl, _, _, _, [], _, [], hW', trodAll_mk1 (shut_bool Tryd.underlying4 _), (trodAll_cons_mk (Below.trod laidOut (by kernel_rfl) (of_decide_eq_true (by kernel_rfl)) k0 bel lt0) trodAll_mk0), rfl, bel.frame _, fun h => by cases h⟩
set_option maxRecDepth 100000 in
theorem closed : joinedFacts Tryd.prog 5 Tryd.f5 Rows.fnBindsTextSpec Rows.fnBindsTextRow = true := by
  unfold joinedFacts
  refine Bool.and_eq_true_iff.2 ⟨Bool.and_eq_true_iff.2 ⟨Bool.and_eq_true_iff.2 ⟨Bool.and_eq_true_iff.2 ⟨Bool.and_eq_true_iff.2 ⟨Bool.and_eq_true_iff.2 ⟨Bool.and_eq_true_iff.2 ⟨?_, mayEnter_yes⟩, (congrArg (fun b => Rows.fnBindsTextRow.lifted == b) liftsFinal_no).trans (by kernel_rfl)⟩, (congrArg (fun b => b == some Rows.fnBindsTextRow.make) make_cut).trans (by kernel_rfl)⟩, ?_⟩, ?_⟩, ?_⟩, ?_⟩
  all_goals kernel_rfl
theorem over : Rows.fnBindsTextRow.holds Tryd.pinned (OpenSpec.ofChange Rows.fnBindsTextSpec) :=
  OpenClaim.holds_of_wide 5 Tryd.f5 rfl rfl rfl rfl rfl rfl rfl ⟨rfl, rfl, rfl, rfl, rfl⟩ rfl rfl rfl rfl rfl (by kernel_rfl) Tryd.func5 closed
    (of_decide_eq_true (by kernel_rfl)) (by unfold Func.isWrapper; first | (rw [if_pos (by decide +kernel)]; kernel_rfl) | (rw [if_neg (by decide +kernel)]; exact ⟨rfl, rfl⟩))
    (fun os started H enc _ => lifted os started H enc)
end Go.Proofs.YteeepenncddnjaaDoor.fnBindsText
namespace Go.Proofs.YteeepenncddnjaaDoor
/-- The row. -/
theorem fnBindsText_row : Rows.FnBindsTextSaid := fnBindsText.over
theorem fnBindsText_tie3 : Rows.fnBindsTextRow.laidByTextAt .later Tryd.pinned [.data, .data, .data] true := OpenClaim.laidByTextAt_later rfl rfl tie (by kernel_rfl)
/-- The tied card. -/
theorem fnBindsText_holds : Rows.FnBindsTextCardSaid :=
  Claim7.holds_tied_plain_at .later [] [.data, .data, .data] true (true, "d6c602bbc3bef5f822d3e324f773950865682dcf61708e441e970ce1caecdbd3") false
    fnBindsText_row (fun _ h => by cases h) (by kernel_rfl) (fun _ h => by cases h) fnBindsText_tie3 rfl ⟨rfl, rfl⟩ (by kernel_rfl) rfl
    (fun f fn hf hfn => by
      obtain rfl : f = 5 := Option.some.inj ((show Tryd.prog.funcNamed "loop.example/macroexpander/laws.FnBindsText" = some 5 by kernel_rfl).symm.trans hf) |>.symm
      obtain rfl : fn = Tryd.f5 := (Option.some.inj (Tryd.func5.symm.trans hfn)).symm
      exact ⟨by kernel_rfl, fun j t ht => by
        rw [Tryd.params5] at ht
        have hm : t ∈ [22] := by simpa using Array.mem_of_getElem? ht
        have hall : ([22].all fun u => !Tryd.prog.wantsStandIn u) = true := by kernel_rfl
        exact (show Tryd.prog.wantsStandIn t = false by simpa using List.all_eq_true.1 hall t hm)⟩)
    (by kernel_rfl)
#print axioms fnBindsText_holds
end Go.Proofs.YteeepenncddnjaaDoor
end
