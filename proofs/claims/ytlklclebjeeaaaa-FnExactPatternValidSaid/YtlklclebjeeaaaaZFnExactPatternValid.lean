/- The program's PatternValid returns what the reference's returns, and leaves its arguments alone. For every input the law FnExactPatternValid returns true, and leaves its input alone. No condition. -/
import Derived.Below
import Derived.ChangeOld
import Derived.Deep.RegionHeld3
import Derived.JoinedOf
import Derived.KernelRfl
import Derived.OpenShut
import Derived.ProofKit
import Derived.RowKit3
import Derived.ShutString
import Derived.SizedLaws
import Derived.Test.YtlklclebjeeaaaaRows
import Derived.WalkKit
import Derived.Test.YtlklclebjeeaaaaHc1
import Derived.Test.YtlklclebjeeaaaaHc4
section
namespace Go.Proofs.Ytlklclebjeeaaaa
open Go.RowKit Go.Proofs.YtlklclebjeeaaaaW.PrintWords Go.Proofs.YtlklclebjeeaaaaW.PrintLast Go.Proofs.YtlklclebjeeaaaaW.PrintMore
set_option linter.unusedVariables false
set_option linter.unusedSimpArgs false
theorem toFormG (x : Fm) (A3 : Option Addr) (c3 : Nat) (A4 : Option Addr) (c4 : Nat) (w : World) (hin : FmIn w x A3 c3 A4 c4) (ht : x.tot ≤ 1048576) :
    Calls Try.prog 14 #[.agg #[.int .i64 x.f0, .string x.f1, .int .i64 x.f2, .slice A3 x.f3.length c3, .slice A4 x.f4.length c4]] w (fun e w' => ∃ (B3 : Option Addr) (d3 : Nat) (B4 : Option Addr) (d4 : Nat), e = .returned (.agg #[.int .i64 x.f0, .string x.f1, .int .i64 x.f2, .slice B3 x.f3.length d3, .slice B4 x.f4.length d4]) ∧ FmIn w' x B3 d3 B4 d4 ∧ Below w.heap.size w w') := by
  refine (toForm_any x A3 c3 A4 c4 w hin ht).mono ?_
  rintro e w' ⟨v3, v4, rfl, ⟨fp, ht2, _, _⟩, hb⟩
  obtain ⟨E3, g3, E4, g4, rfl, rfl, ia⟩ := ht2.In
  exact ⟨E3, g3, E4, g4, rfl, ia, hb⟩
theorem keepTenB {w1 w2 : World} (hb : Below w1.heap.size w1 w2) {a0 a1 a2 a3 a4 a5 a6 a7 a8 a9 : Addr} {v0 v1 v2 v3 v4 v5 v6 v7 v8 v9 : Value} (h : w1.cell? a0 = some v0 ∧ w1.cell? a1 = some v1 ∧ w1.cell? a2 = some v2 ∧ w1.cell? a3 = some v3 ∧ w1.cell? a4 = some v4 ∧ w1.cell? a5 = some v5 ∧ w1.cell? a6 = some v6 ∧ w1.cell? a7 = some v7 ∧ w1.cell? a8 = some v8 ∧ w1.cell? a9 = some v9) :
    w2.cell? a0 = some v0 ∧ w2.cell? a1 = some v1 ∧ w2.cell? a2 = some v2 ∧ w2.cell? a3 = some v3 ∧ w2.cell? a4 = some v4 ∧ w2.cell? a5 = some v5 ∧ w2.cell? a6 = some v6 ∧ w2.cell? a7 = some v7 ∧ w2.cell? a8 = some v8 ∧ w2.cell? a9 = some v9 :=
  let ⟨h0, h1, h2, h3, h4, h5, h6, h7, h8, h9⟩ := h
  ⟨ck0 hb h0, ck0 hb h1, ck0 hb h2, ck0 hb h3, ck0 hb h4, ck0 hb h5, ck0 hb h6, ck0 hb h7, ck0 hb h8, ck0 hb h9⟩
theorem toFormSG (ks : List Fm) (A : Option Addr) (c : Nat) (w : World) (hr : kF.C w A ks.length ks) (hc : ks.length ≤ c) (ht : totL ks ≤ 1048576) :
    Calls Try.prog 37 #[.slice A ks.length c] w (fun e w' => ∃ (B : Option Addr) (d : Nat), e = .returned (.slice B ks.length d) ∧ ks.length ≤ d ∧ kF.C w' B ks.length ks ∧ Below w.heap.size w w') := by
  refine (toFormS_of ks (fun k _ => toForm_any k) A c w hr hc ht).mono ?_
  rintro e w' ⟨v, rfl, hn, hb⟩
  obtain ⟨B, d, rfl, hd, hC⟩ := Kd.R_reads hn.toR
  exact ⟨B, d, rfl, hd, hC, hb⟩
theorem eqFormSX (ks : List Fm) (A B : Option Addr) (c d : Nat) (w : World) (hr : kF.C w A ks.length ks) (hc : ks.length ≤ c) (hr2 : kF.C w B ks.length ks) (hc2 : ks.length ≤ d) :
    Calls Try.prog 39 #[.slice A ks.length c, .slice B ks.length d] w (Ret w (.bool true)) := by
  have h := eqFormS_of ks ks (fun k _ => eqForm_any k) A B c d w hr hc hr2 hc2
  rw [eqB_self] at h
  exact h
set_option maxHeartbeats 4000000 in
set_option maxRecDepth 100000 in
theorem fnExactPatternValid_walk (x : Fm) (A3 : Option Addr) (Ac3 : Nat) (A4 : Option Addr) (Ac4 : Nat) (l : List Fm) (LA : Option Addr) (lc : Nat) (w : World) (hin : FmIn w x A3 Ac3 A4 Ac4) (hnm : NmSmall x) (hc : l.length ≤ lc) (hr : kF.C w LA l.length l) (hl : ∀ b, b ∈ l → NmSmall b) :
    Calls Try.prog 8 #[.agg #[.int .i64 x.f0, .string x.f1, .int .i64 x.f2, .slice A3 x.f3.length Ac3, .slice A4 x.f4.length Ac4], .slice LA l.length lc] w fun e w' => e = .returned (.bool true) ∧ Below w.heap.size w w' := by
  have hmax := hr.2.1
  have HZ := Lib.hid (fun W hb => szForm_any x A3 Ac3 A4 Ac4 1048576 W (hin.below hb) hnm (by omega) (by omega))
  have HZ2 := Lib.hid (fun W hb (hq : x.tot ≤ 1048576) => szFormS_any l LA lc (1048576 - (x.tot : Int)) W (Kd.C_below hr hb) hc hl (by omega) (by omega))
  have HI := Lib.hid hin
  have HR := Lib.hid (fun W (hb : Below w.heap.size w W) => Kd.C_below hr hb)
  clear hin hr hl hnm
  go_enter Try.func8, Try.ntmps8
  go_wp2_with fail
  refine (HZ.out _ (below_new _ _)).mono ?_
  rintro e w1 ⟨rfl, hb1⟩
  obtain ⟨k1, b1⟩ := one_new hb1
  have KA := Lib.hid k1
  have BW := Lib.hid b1
  clear hb1 k1 b1 HZ
  by_cases hq : x.tot ≤ 1048576
  rotate_left
  · rw [szR_no (by omega)]
    have hd : decide ((-1 : Int) < 0) = true := by simp
    go_wp2_with fail
    go_ret
    exact ⟨rfl, BW.out⟩
  rw [szR_yes (by omega)]
  have hd : decide ((1048576 : Int) - (x.tot : Int) < 0) = false := decide_eq_false (by omega)
  go_wp2_with fail
  refine (HZ2.out _ BW.out hq).mono ?_
  rintro e w2 ⟨rfl, bb⟩
  replace KA := Lib.hid (blk_below KA.out bb)
  replace BW := Lib.hid (below_step BW.out bb)
  clear bb HZ2
  by_cases hq2 : (totL l : Int) ≤ 1048576 - (x.tot : Int)
  rotate_left
  · rw [szR_no (by omega)]
    have hd2 : decide ((-1 : Int) < 0) = true := by simp
    go_wp2_with fail
    go_ret
    exact ⟨rfl, BW.out⟩
  rw [szR_yes hq2]
  have hd2 : decide ((1048576 : Int) - (x.tot : Int) - (totL l : Int) < 0) = false := decide_eq_false (by omega)
  have htl : totL l ≤ 1048576 := by omega
  have hlen : l.length ≤ 2000000 := by have := len_totL l; omega
  have hmem : ∀ y, y ∈ l → y.tot ≤ 1048576 := fun y hy => by have := totL_mem hy; omega
  have HTF := Lib.hid (fun W hb => toFormG x A3 Ac3 A4 Ac4 W (HI.out.below hb) hq)
  have HTS := Lib.hid (fun W hb => toFormSG l LA lc W (HR.out W hb) hc htl)
  have HSP := Lib.hid (fun B3 b3 B4 b4 C c W hx hr hc => specPatternValid_any x B3 b3 B4 b4 l C c W hx hr hc hq hlen hmem)
  have HIM := Lib.hid (fun B3 b3 B4 b4 C c W hx hr hc => implPatternValid_any x B3 b3 B4 b4 l C c W hx hr hc hq hmem)
  clear hmem htl hlen
  obtain ⟨p0, p1, p2, p3, p4⟩ := fm_cells KA.out
  go_wp2_with fail
  clear p0 p1 p2 p3 p4
  refine (HTF.out _ BW.out).mono ?_
  rintro e wa ⟨E3, Ec3, E4, Ec4, rfl, oe, bb⟩
  have IE := Lib.hid oe
  replace KA := Lib.hid (blk_below KA.out bb)
  replace BW := Lib.hid (below_step BW.out bb)
  clear oe bb
  go_wp2_with fail
  refine (HTS.out _ BW.out).mono ?_
  rintro e wb ⟨PA, pc, rfl, hpc, hP, bb⟩
  have IP := Lib.hid (And.intro hpc hP)
  replace IE := Lib.hid (IE.out.below bb)
  replace KA := Lib.hid (blk_below KA.out bb)
  replace BW := Lib.hid (below_step BW.out bb)
  clear hpc hP bb
  go_wp2_with fail
  refine (HSP.out E3 Ec3 E4 Ec4 PA pc _ IE.out IP.out.2 IP.out.1).mono ?_
  rintro e ws ⟨rfl, bb⟩
  replace KA := Lib.hid (blk_below KA.out bb)
  replace BW := Lib.hid (below_step BW.out bb)
  clear bb IE IP
  generalize pB (PatOk x l) = r0 at HSP HIM ⊢
  obtain ⟨p0, p1, p2, p3, p4⟩ := fm_cells KA.out
  go_wp2_with fail
  clear p0 p1 p2 p3 p4
  refine (HTF.out _ BW.out).mono ?_
  rintro e w5 ⟨Y3, Yc3, Y4, Yc4, rfl, oy, bb⟩
  have IY := Lib.hid oy
  replace KA := Lib.hid (blk_below KA.out bb)
  replace BW := Lib.hid (below_step BW.out bb)
  clear oy bb
  go_wp2_with fail
  have bn := below_new w5 (.cells #[.int .i64 x.f0, .string x.f1, .int .i64 x.f2, .slice Y3 x.f3.length Yc3, .slice Y4 x.f4.length Yc4] 34)
  have ky := blk_new w5 (.cells #[.int .i64 x.f0, .string x.f1, .int .i64 x.f2, .slice Y3 x.f3.length Yc3, .slice Y4 x.f4.length Yc4] 34)
  refine (HTS.out _ (below_step BW.out bn)).mono ?_
  rintro e w6 ⟨XA, Xc, rfl, hxc, hX, bb⟩
  have IX := Lib.hid (And.intro hxc hX)
  have KY := Lib.hid (blk_below ky bb)
  replace bb := below_step bn bb
  replace IY := Lib.hid (IY.out.below bb)
  replace KA := Lib.hid (blk_below KA.out bb)
  replace BW := Lib.hid (below_step BW.out bb)
  clear hxc hX bb bn ky
  obtain ⟨q0, q1, q2, q3, q4⟩ := fm_cells KY.out
  go_wp2_with fail
  clear q0 q1 q2 q3 q4
  refine (HIM.out Y3 Yc3 Y4 Yc4 XA Xc _ IY.out IX.out.2 IX.out.1).mono ?_
  rintro e w7 ⟨rfl, bb⟩
  replace IX := Lib.hid (And.intro IX.out.1 (Kd.C_below IX.out.2 bb))
  replace IY := Lib.hid (IY.out.below bb)
  replace KY := Lib.hid (blk_below KY.out bb)
  replace KA := Lib.hid (blk_below KA.out bb)
  replace BW := Lib.hid (below_step BW.out bb)
  clear bb HIM HSP
  have hn0 : (r0 != r0) = false := by simp
  obtain ⟨p0, p1, p2, p3, p4⟩ := fm_cells KA.out
  obtain ⟨q0, q1, q2, q3, q4⟩ := fm_cells KY.out
  go_wp2_with fail
  go_region_held3 (fun W => W.cell? ⟨w.heap.size, 0, none⟩ = some (.int .i64 x.f0) ∧ W.cell? ⟨w.heap.size, 1, none⟩ = some (.string x.f1) ∧ W.cell? ⟨w.heap.size, 2, none⟩ = some (.int .i64 x.f2) ∧ W.cell? ⟨w.heap.size, 3, none⟩ = some (.slice A3 x.f3.length Ac3) ∧ W.cell? ⟨w.heap.size, 4, none⟩ = some (.slice A4 x.f4.length Ac4) ∧ W.cell? ⟨w5.heap.size, 0, none⟩ = some (.int .i64 x.f0) ∧ W.cell? ⟨w5.heap.size, 1, none⟩ = some (.string x.f1) ∧ W.cell? ⟨w5.heap.size, 2, none⟩ = some (.int .i64 x.f2) ∧ W.cell? ⟨w5.heap.size, 3, none⟩ = some (.slice Y3 x.f3.length Yc3) ∧ W.cell? ⟨w5.heap.size, 4, none⟩ = some (.slice Y4 x.f4.length Yc4)) (first | go_keep | exact keepTenB (below_step (Below.refl _ _).drew hba) ⟨p0, p1, p2, p3, p4, q0, q1, q2, q3, q4⟩ | exact keepTenB (below_step (below_step (Below.refl _ _).drew hba) hbs) ⟨p0, p1, p2, p3, p4, q0, q1, q2, q3, q4⟩)
    ((first
      | (go_at_call 14; refine (HTF.out _ BW.out.drew).mono ?_; rintro e wa ⟨V3, Vc3, V4, Vc4, rfl, ov, hba⟩)
      | (go_at_call 18; refine (eqForm_any x x _ _ _ _ _ _ _ _ _ (IY.out.below (below_step (Below.refl _ _).drew hba)) ov).mono ?_; rintro e ws ⟨rfl, hbs⟩)))
  have bb := below_step (below_step (Below.refl _ _).drew hba) hbs
  replace IX := Lib.hid (And.intro IX.out.1 (Kd.C_below IX.out.2 bb))
  replace BW := Lib.hid (below_step BW.out bb)
  clear bb hba hbs ov p0 p1 p2 p3 p4 q0 q1 q2 q3 q4
  rw [eqB_self]
  go_wp2_with fail
  refine (HTS.out _ BW.out).mono ?_
  rintro e w9 ⟨QA, Qc, rfl, hqc, hQ, bb⟩
  have IQ := Lib.hid (And.intro hqc hQ)
  replace IX := Lib.hid (And.intro IX.out.1 (Kd.C_below IX.out.2 bb))
  replace BW := Lib.hid (below_step BW.out bb)
  clear bb hqc hQ
  go_wp2_with fail
  refine (eqFormSX l XA QA Xc Qc w9 IX.out.2 IX.out.1 IQ.out.2 IQ.out.1).mono ?_
  rintro e wz ⟨rfl, bb⟩
  replace BW := Lib.hid (below_step BW.out bb)
  clear bb
  go_wp2_with fail
  go_ret
  exact ⟨rfl, BW.out⟩
end Go.Proofs.Ytlklclebjeeaaaa
end
section
namespace Go.Proofs.Ytlklclebjeeaaaa.fnExactPatternValid
open Go.ChangeShapes Go.WideShapes Go.ChangeAt Go.RowKit Go.Proofs.Ytlklclebjeeaaaa
open Go.ChangeMaps (open_string shut_string)
set_option linter.unusedVariables false
theorem own : ownKnob Try.prog.godebug = none := by kernel_rfl
theorem laidOut : laidOutB Try.prog = true := by kernel_rfl
set_option maxRecDepth 100000 in
theorem lifted (os : Os) (started : os.Started) (H : Type) (enc : TypeId × Value → H) :
    ReturnsInHanded {} Try.checked os 8 .any (Rows.fnExactPatternValidSpec.pre6 enc Try.prog Try.f8 Rows.fnExactPatternValidRow.domain false) (Rows.fnExactPatternValidSpec.post enc Try.prog Try.f8 false true false false) := by
  refine returnsInHanded_of_change_sized (C := Try.checked) own started (by kernel_rfl) Try.func8
    (ChangeSpec.witness6 (enc := enc) (C := Try.checked) false ⟨#[], #[.agg #[.int .i64 0, .string ByteArray.empty, .int .i64 0, .slice none 0 0, .slice none 0 0], .slice none 0 0], []⟩ 8 (by kernel_rfl) (by kernel_rfl) (by kernel_rfl) (by kernel_rfl)) ?_
  intro W base args ds gs before hval0 hW hcnd hsz0 _
  have hsz : (DataW.weightsEach Try.prog (Try.f8.params.toList ++ Rows.fnExactPatternValidSpec.plain.varTypes Try.prog) (ds ++ gs)).all (· ≤ reachBytes) = true := hsz0
  have hval : ∀ (j : Nat) t v, Try.f8.params[j]? = some t → args[j]? = some v → Value.okWide Try.prog W .any base t v := hval0
  have hW' := hW
  obtain ⟨p, q, hA0, hV, rfl, hfz, hnd⟩ := hW
  have hA : DataW.TrodAll enc Try.prog W 0 (fun _ => true) true Try.f8.params.toList args.toList ds p := hA0
  rw [Try.params8] at hA hval hsz
  obtain ⟨v0, vs0, d0, ds0, p0, q0, hargs, rfl, rfl, h0, r0⟩ := trodAll_cons hA
  obtain ⟨v1, vs1, d1, ds1, p1, q1, rfl, rfl, rfl, h1, r1⟩ := trodAll_cons r0
  obtain ⟨rfl, rfl, rfl⟩ := trodAll_nil r1
  obtain rfl : args = #[v0, v1] := by cases args; simp_all
  obtain ⟨rfl, rfl⟩ := trodVars_none hV
  have k0 := h0
  have lt0 : ∀ x ∈ p0, x.block < W.heap.size := by obtain ⟨m, hm⟩ := k0; exact DataW.trod_lt m _ _ _ hm
  obtain ⟨x0, A0, c0, B0, e0, rfl, i0, z0⟩ := open_form (hval 0 26 v0 rfl rfl) h0
  have k1 := h1
  have lt1 : ∀ x ∈ p1, x.block < W.heap.size := by obtain ⟨m, hm⟩ := k1; exact DataW.trod_lt m _ _ _ hm
  obtain ⟨x1, A1, c1, rfl, hc1, hr1, z1⟩ := open_forms (hval 1 24 v1 rfl rfl) h1
  clear hA0 hval0 hsz0 hsz
  refine (fnExactPatternValid_walk x0 A0 c0 B0 e0 x1 A1 c1 W i0 z0 hc1 hr1 z1).mono fun e W' ⟨he, bel⟩ => ?_
  subst he
  exact ⟨_, rfl, _, _, _, [], _, [], hW', trodAll_mk1 (shut_bool Try.underlying4 _), (trodAll_cons_mk (Below.trod laidOut (by kernel_rfl) (of_decide_eq_true (by kernel_rfl)) k0 bel lt0) (trodAll_cons_mk (Below.trod laidOut (by kernel_rfl) (of_decide_eq_true (by kernel_rfl)) k1 bel lt1) trodAll_mk0)), rfl, bel.frame _, fun h => by cases h⟩
set_option maxRecDepth 100000 in
theorem closed : joinedFacts Try.prog 8 Try.f8 Rows.fnExactPatternValidSpec Rows.fnExactPatternValidRow = true := by
  unfold joinedFacts
  refine Bool.and_eq_true_iff.2 ⟨Bool.and_eq_true_iff.2 ⟨Bool.and_eq_true_iff.2 ⟨Bool.and_eq_true_iff.2 ⟨Bool.and_eq_true_iff.2 ⟨Bool.and_eq_true_iff.2 ⟨Bool.and_eq_true_iff.2 ⟨?_, mayEnter_yes⟩, (congrArg (fun b => Rows.fnExactPatternValidRow.lifted == b) liftsFinal_no).trans (by kernel_rfl)⟩, (congrArg (fun b => b == some Rows.fnExactPatternValidRow.make) make_cut).trans (by kernel_rfl)⟩, ?_⟩, ?_⟩, ?_⟩, ?_⟩
  all_goals kernel_rfl
theorem over : Rows.fnExactPatternValidRow.holds Try.pinned (OpenSpec.ofChange Rows.fnExactPatternValidSpec) :=
  OpenClaim.holds_of_wide 8 Try.f8 rfl rfl rfl rfl rfl rfl rfl ⟨rfl, rfl, rfl, rfl, rfl⟩ rfl rfl rfl rfl rfl (by kernel_rfl) Try.func8 closed
    (of_decide_eq_true (by kernel_rfl)) (by unfold Func.isWrapper; first | (rw [if_pos (by decide +kernel)]; kernel_rfl) | (rw [if_neg (by decide +kernel)]; exact ⟨rfl, rfl⟩))
    (fun os started H enc _ => lifted os started H enc)
end Go.Proofs.Ytlklclebjeeaaaa.fnExactPatternValid
namespace Go.Proofs.Ytlklclebjeeaaaa
/-- The row. -/
theorem fnExactPatternValid_holds : Rows.FnExactPatternValidSaid := fnExactPatternValid.over
#print axioms fnExactPatternValid_holds
end Go.Proofs.Ytlklclebjeeaaaa
end
