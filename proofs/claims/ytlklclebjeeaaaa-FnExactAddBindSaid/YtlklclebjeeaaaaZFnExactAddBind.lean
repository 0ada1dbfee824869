/- The program's AddBind returns what the reference's returns, in memory of its own. For every input the law FnExactAddBind returns true, and leaves its input alone. No condition. -/
import Derived.Below
import Derived.ChangeOld
import Derived.Deep.RegionHeld3
import Derived.JoinedOf
import Derived.KernelRfl
import Derived.OpenShut
import Derived.ProofKit
import Derived.RowKit3
import Derived.ShutString
import Derived.SizedLaws
import Derived.Test.YtlklclebjeeaaaaRows
import Derived.WalkKit
import Derived.Test.YtlklclebjeeaaaaPb1
import Derived.Test.YtlklclebjeeaaaaPb2
import Derived.Test.YtlklclebjeeaaaaPb4
import Derived.Test.YtlklclebjeeaaaaPb5
import Derived.Test.YtlklclebjeeaaaaPb6
section
namespace Go.Proofs.Ytlklclebjeeaaaa
open Go.RowKit Go.Proofs.YtlklclebjeeaaaaW.PrintWords Go.Proofs.YtlklclebjeeaaaaW.PrintLast Go.Proofs.YtlklclebjeeaaaaW.PrintMore
set_option linter.unusedVariables false
set_option linter.unusedSimpArgs false
namespace fnExactAddBindK
theorem keepFive {w1 w2 : World} (hb : Below w1.heap.size w1 w2) {a0 a1 a2 a3 a4 : Addr} {v0 v1 v2 v3 v4 : Value} (h : w1.cell? a0 = some v0 ∧ w1.cell? a1 = some v1 ∧ w1.cell? a2 = some v2 ∧ w1.cell? a3 = some v3 ∧ w1.cell? a4 = some v4) :
    w2.cell? a0 = some v0 ∧ w2.cell? a1 = some v1 ∧ w2.cell? a2 = some v2 ∧ w2.cell? a3 = some v3 ∧ w2.cell? a4 = some v4 :=
  let ⟨h0, h1, h2, h3, h4⟩ := h
  ⟨ck0 hb h0, ck0 hb h1, ck0 hb h2, ck0 hb h3, ck0 hb h4⟩
theorem toFormG (x : Fm) (A3 : Option Addr) (c3 : Nat) (A4 : Option Addr) (c4 : Nat) (w : World) (hin : FmIn w x A3 c3 A4 c4) (ht : x.tot ≤ 1048576) :
    Calls Try.prog 14 #[.agg #[.int .i64 x.f0, .string x.f1, .int .i64 x.f2, .slice A3 x.f3.length c3, .slice A4 x.f4.length c4]] w (fun e w' => ∃ (B3 : Option Addr) (d3 : Nat) (B4 : Option Addr) (d4 : Nat), e = .returned (.agg #[.int .i64 x.f0, .string x.f1, .int .i64 x.f2, .slice B3 x.f3.length d3, .slice B4 x.f4.length d4]) ∧ FmIn w' x B3 d3 B4 d4 ∧ Below w.heap.size w w') := by
  refine (toForm_any x A3 c3 A4 c4 w hin ht).mono ?_
  rintro e w' ⟨v3, v4, rfl, ⟨fp, ht2, _, _⟩, hb⟩
  obtain ⟨E3, g3, E4, g4, rfl, rfl, ia⟩ := ht2.In
  exact ⟨E3, g3, E4, g4, rfl, ia, hb⟩
end fnExactAddBindK
open fnExactAddBindK
set_option maxHeartbeats 4000000 in
set_option maxRecDepth 100000 in
theorem fnExactAddBind_walk (l : List Bd) (LA : Option Addr) (lc : Nat) (x : Fm) (A3 : Option Addr) (Ac3 : Nat) (A4 : Option Addr) (Ac4 : Nat) (n : Int) (w : World) (hc : l.length ≤ lc) (hr : kB.C w LA l.length l) (hl : ∀ b, b ∈ l → BdSmall b) (hin : FmIn w x A3 Ac3 A4 Ac4) (hnm : NmSmall x) (hwn : (Lit.int .i64 n).wf = true) :
    Calls Try.prog 5 #[.slice LA l.length lc, .agg #[.int .i64 x.f0, .string x.f1, .int .i64 x.f2, .slice A3 x.f3.length Ac3, .slice A4 x.f4.length Ac4], .int .i64 n] w fun e w' => e = .returned (.bool true) ∧ Below w.heap.size w w' := by
  have hmax := hr.2.1
  have HZ := Lib.hid (fun W hb => szB_any l LA lc W (Kd.C_below hr hb) hc hl (by omega))
  have HZ2 := Lib.hid (fun W hb (hq : l.length + totB l ≤ 1048576) => szForm_any x A3 Ac3 A4 Ac4 (1048576 - ((l.length + totB l : Nat) : Int)) W (hin.below hb) hnm (by omega) (by omega))
  have hz0 := addBindR_tot l x n
  rcases hz : addBindR l x n with ⟨r, b⟩
  rw [hz] at hz0
  have HF := Lib.hid hz
  have HLN := Lib.hid hz0
  have HI := Lib.hid hin
  have HR := Lib.hid (fun W (hb : Below w.heap.size w W) => Kd.C_below hr hb)
  clear hz hz0 hin hr hl
  go_enter Try.func5, Try.ntmps5
  go_wp2_with fail
  refine (HZ.out _ (below_new _ _)).mono ?_
  rintro e w1 ⟨rfl, hb1⟩
  obtain ⟨k1, b1⟩ := one_new hb1
  have KA := Lib.hid k1
  have BW := Lib.hid b1
  clear hb1 k1 b1 HZ
  by_cases hq : l.length + totB l ≤ 1048576
  rotate_left
  · rw [szR_no (by omega)]
    have hd : decide ((-1 : Int) < 0) = true := by simp
    go_wp2_with fail
    go_ret
    exact ⟨rfl, BW.out⟩
  rw [szR_yes (by omega)]
  have hd : decide ((1048576 : Int) - ((l.length + totB l : Nat) : Int) < 0) = false := decide_eq_false (by omega)
  obtain ⟨p0, p1, p2, p3, p4⟩ := fm_cells KA.out
  go_wp2_with fail
  clear p0 p1 p2 p3 p4
  refine (HZ2.out _ BW.out hq).mono ?_
  rintro e w2 ⟨rfl, bb⟩
  replace KA := Lib.hid (blk_below KA.out bb)
  replace BW := Lib.hid (below_step BW.out bb)
  clear bb HZ2
  by_cases hq2 : (x.tot : Int) ≤ 1048576 - ((l.length + totB l : Nat) : Int)
  rotate_left
  · rw [szR_no (by omega)]
    have hd2 : decide ((-1 : Int) < 0) = true := by simp
    go_wp2_with fail
    go_ret
    exact ⟨rfl, BW.out⟩
  rw [szR_yes hq2]
  have hd2 : decide ((1048576 : Int) - ((l.length + totB l : Nat) : Int) - (x.tot : Int) < 0) = false := decide_eq_false (by omega)
  have ht : x.tot ≤ 1048576 := by omega
  have hl0 : l.length ≤ 1048576 := by omega
  have hrl : r.length + totB r ≤ 1048577 := by have := HLN.out; omega
  have HS := Lib.hid (smB_of hq)
  have HSR := Lib.hid (show SmB r from ⟨by omega, fun c hc => by have := totB_mem hc; omega⟩)
  have hne : (b != b) = false := by simp
  obtain ⟨p0, p1, p2, p3, p4⟩ := fm_cells KA.out
  go_wp2_with fail
  go_region_held3 (fun W => W.cell? ⟨w.heap.size, 0, none⟩ = some (.int .i64 x.f0) ∧ W.cell? ⟨w.heap.size, 1, none⟩ = some (.string x.f1) ∧ W.cell? ⟨w.heap.size, 2, none⟩ = some (.int .i64 x.f2) ∧ W.cell? ⟨w.heap.size, 3, none⟩ = some (.slice A3 x.f3.length Ac3) ∧ W.cell? ⟨w.heap.size, 4, none⟩ = some (.slice A4 x.f4.length Ac4)) (first | go_keep | exact keepFive (below_step (Below.refl _ _).drew hba) ⟨p0, p1, p2, p3, p4⟩ | exact keepFive (below_step (below_step (Below.refl _ _).drew hba) hbb) ⟨p0, p1, p2, p3, p4⟩ | exact keepFive (below_step (below_step (below_step (Below.refl _ _).drew hba) hbb) hbs) ⟨p0, p1, p2, p3, p4⟩)
    ((first
      | (go_at_call 13; refine (toB_any l LA lc _ (HR.out _ BW.out.drew) hc HS.out).mono ?_; rintro e wa ⟨PA, pc, rfl, hpc, hP, hba⟩)
      | (go_at_call 14; refine (toFormG x A3 Ac3 A4 Ac4 _ (HI.out.below (below_step BW.out.drew hba)) ht).mono ?_; rintro e wb ⟨R3, Rc3, R4, Rc4, rfl, ob, hbb⟩)
      | (go_at_call 25; refine (specAddBO HF.out PA pc R3 Rc3 R4 Rc4 _ (Kd.C_below hP hbb) hpc ob HS.out ht).mono ?_; rintro e wX ⟨UA, Uc, rfl, ou, hbs⟩)))
  have bs := below_step (below_step (below_step (Below.refl _ _).drew hba) hbb) hbs
  have IU := Lib.hid ou.now
  replace KA := Lib.hid (blk_below KA.out bs)
  replace BW := Lib.hid (below_step BW.out bs)
  clear bs hba hbb hbs ob ou hP hpc p0 p1 p2 p3 p4
  go_wp2_with fail
  refine (toBindSO l LA lc _ (HR.out _ BW.out) hc HS.out).mono ?_
  rintro e w4 ⟨XA, Xc, rfl, ob, bb⟩
  have OB := Lib.hid ob
  have BX := Lib.hid bb
  have HSA := Lib.hid (show wX.heap.size ≤ w4.heap.size from bb.size)
  clear bb ob
  obtain ⟨p0, p1, p2, p3, p4⟩ := fm_cells (blk_below KA.out BX.out)
  go_wp2_with fail
  clear p0 p1 p2 p3 p4
  refine (toFormO x A3 Ac3 A4 Ac4 w4 (HI.out.below (below_step BW.out BX.out)) ht).mono ?_
  rintro e w5 ⟨Y3, Yc3, Y4, Yc4, fx, rfl, ox, bb⟩
  have OX := Lib.hid ox
  replace OB := Lib.hid (OB.out.later bb)
  replace BX := Lib.hid (below_step BX.out bb)
  have HSB := Lib.hid (show w4.heap.size ≤ w5.heap.size from bb.size)
  clear ox bb
  go_wp2_with fail
  have bn := below_new w5 (.cells #[.int .i64 x.f0, .string x.f1, .int .i64 x.f2, .slice Y3 x.f3.length Yc3, .slice Y4 x.f4.length Yc4] 34)
  refine (implAddBO HF.out XA Xc Y3 Yc3 Y4 Yc4 _ (OB.out.later bn).now.2 OB.out.now.1 (OX.out.now.below bn) HS.out ht).mono ?_
  rintro e w6 ⟨GA, Gc, rfl, og, bb⟩
  obtain ⟨ky, bb⟩ := one_new bb
  obtain ⟨lo, hlo, og⟩ : ∃ lo, w5.heap.size + 1 ≤ lo ∧ OwnB lo w6.heap.size w6 r (.slice GA r.length Gc) := ⟨_, by simp, og⟩
  have KY := Lib.hid ky
  have OG := Lib.hid og
  replace OB := Lib.hid (OB.out.later bb)
  replace OX := Lib.hid (OX.out.later bb)
  replace BX := Lib.hid (below_step BX.out bb)
  have HSZ := Lib.hid (show w5.heap.size + 1 ≤ lo ∧ w4.heap.size ≤ w5.heap.size ∧ wX.heap.size ≤ w4.heap.size from ⟨hlo, HSB.out, HSA.out⟩)
  clear bb bn ky og hlo
  go_wp2_with fail
  refine (eqB_any r GA Gc UA Uc _ OG.out.now.2 OG.out.now.1 (Kd.C_below IU.out.2 BX.out) IU.out.1 HSR.out).mono ?_
  rintro e w7 ⟨rfl, bb⟩
  replace OB := Lib.hid (OB.out.later bb)
  replace OX := Lib.hid (OX.out.later bb)
  replace OG := Lib.hid (OG.out.later bb)
  replace KY := Lib.hid (blk_below KY.out bb)
  replace BX := Lib.hid (below_step BX.out bb)
  clear bb
  go_wp2_with fail
  refine (toB_any l LA lc _ (HR.out _ (below_step BW.out BX.out)) hc HS.out).mono ?_
  rintro e w8 ⟨QA, Qc, rfl, hqc, hQ, bb⟩
  have IQ := Lib.hid (And.intro hqc hQ)
  replace OB := Lib.hid (OB.out.later bb)
  replace OX := Lib.hid (OX.out.later bb)
  replace OG := Lib.hid (OG.out.later bb)
  replace KY := Lib.hid (blk_below KY.out bb)
  replace BX := Lib.hid (below_step BX.out bb)
  clear bb hqc hQ
  go_wp2_with fail
  refine (eqB_any l XA Xc QA Qc w8 OB.out.now.2 OB.out.now.1 IQ.out.2 IQ.out.1 HS.out).mono ?_
  rintro e w9 ⟨rfl, bb⟩
  replace OB := Lib.hid (OB.out.later bb)
  replace OX := Lib.hid (OX.out.later bb)
  replace OG := Lib.hid (OG.out.later bb)
  replace KY := Lib.hid (blk_below KY.out bb)
  replace BX := Lib.hid (below_step BX.out bb)
  clear bb IQ
  obtain ⟨p0, p1, p2, p3, p4⟩ := fm_cells (blk_below KA.out BX.out)
  obtain ⟨q0, q1, q2, q3, q4⟩ := fm_cells KY.out
  go_wp2_with fail
  go_region_held3 (fun W => W.cell? ⟨w.heap.size, 0, none⟩ = some (.int .i64 x.f0) ∧ W.cell? ⟨w.heap.size, 1, none⟩ = some (.string x.f1) ∧ W.cell? ⟨w.heap.size, 2, none⟩ = some (.int .i64 x.f2) ∧ W.cell? ⟨w.heap.size, 3, none⟩ = some (.slice A3 x.f3.length Ac3) ∧ W.cell? ⟨w.heap.size, 4, none⟩ = some (.slice A4 x.f4.length Ac4) ∧ W.cell? ⟨w5.heap.size, 0, none⟩ = some (.int .i64 x.f0) ∧ W.cell? ⟨w5.heap.size, 1, none⟩ = some (.string x.f1) ∧ W.cell? ⟨w5.heap.size, 2, none⟩ = some (.int .i64 x.f2) ∧ W.cell? ⟨w5.heap.size, 3, none⟩ = some (.slice Y3 x.f3.length Yc3) ∧ W.cell? ⟨w5.heap.size, 4, none⟩ = some (.slice Y4 x.f4.length Yc4)) (first | go_keep | exact keepTen (below_step (Below.refl _ _).drew hba) ⟨p0, p1, p2, p3, p4, q0, q1, q2, q3, q4⟩ | exact keepTen (below_step (below_step (Below.refl _ _).drew hba) hbs) ⟨p0, p1, p2, p3, p4, q0, q1, q2, q3, q4⟩)
    ((first
      | (go_at_call 14; refine (toFormO x A3 Ac3 A4 Ac4 _ (HI.out.below (below_step BW.out BX.out).drew) ht).mono ?_; rintro e wa ⟨V3, Vc3, V4, Vc4, fy, rfl, oy, hba⟩)
      | (go_at_call 18; refine (eqForm_any x x _ _ _ _ _ _ _ _ _ (OX.out.now.below (below_step (Below.refl _ _).drew hba)) oy.now).mono ?_; rintro e ws ⟨rfl, hbs⟩)))
  have bb := below_step (below_step (Below.refl _ _).drew hba) hbs
  clear p0 p1 p2 p3 p4 q0 q1 q2 q3 q4
  replace OB := Lib.hid (OB.out.later bb)
  replace OX := Lib.hid (OX.out.later bb)
  replace OG := Lib.hid (OG.out.later bb)
  replace KY := Lib.hid (blk_below KY.out bb)
  replace BX := Lib.hid (below_step BX.out bb)
  clear bb hba hbs oy
  rw [eqB_self]
  go_wp2_with fail
  refine (markBindS_own 1 OB.out (by omega) (by omega)).mono ?_
  rintro e w11 ⟨rfl, hm, _⟩
  replace BX := Lib.hid (BX.out.trans (hm.below BX.out.size (Nat.le_refl _)))
  replace OX := Lib.hid (hm.own OX.out (.inl (by have := HSZ.out; omega)))
  replace OG := Lib.hid (hm.ownB OG.out (.inl (by have := HSZ.out; omega)))
  replace KY := Lib.hid (hm.blk KY.out (.inr (by have := HSZ.out; omega)))
  clear hm OB
  have hcb := cntB_tot l
  obtain ⟨q0, q1, q2, q3, q4⟩ := fm_cells KY.out
  go_wp2_with fail
  clear q0 q1 q2 q3 q4
  refine (markForm_own (1 + (cntB l : Int)) OX.out (by omega) (by omega)).mono ?_
  rintro e w12 ⟨rfl, _, hm⟩
  replace BX := Lib.hid (BX.out.trans (hm.below BX.out.size (by have := HSZ.out; omega)))
  replace OG := Lib.hid (hm.ownB OG.out (.inl (by have := HSZ.out; omega)))
  clear hm OX KY
  have hk : decide ((1 : Int) + (cntB l : Int) + (x.cnt : Int) < 0) = false := decide_eq_false (by omega)
  go_wp2_with fail
  refine (eqB_any r GA Gc UA Uc _ OG.out.now.2 OG.out.now.1 (Kd.C_below IU.out.2 BX.out) IU.out.1 HSR.out).mono ?_
  rintro e w13 ⟨rfl, bb⟩
  replace OG := Lib.hid (OG.out.later bb)
  replace BX := Lib.hid (below_step BX.out bb)
  clear bb
  go_wp2_with fail
  refine (markBindS_own 1 OG.out (by omega) (by omega)).mono ?_
  rintro e w14 ⟨rfl, hm, om⟩
  have OM := Lib.hid om
  replace BX := Lib.hid (BX.out.trans (hm.below BX.out.size (by have := HSZ.out; omega)))
  clear hm om OG
  have hk2 : decide ((1 : Int) + (cntB r : Int) < 0) = false := decide_eq_false (by omega)
  have hk3 : (((1 : Int) + (cntB r : Int)) != (1 + (cntB r : Int))) = false := by simp
  go_wp2_with fail
  refine (heldBindS_own 1 OM.out (by omega) (by omega)).mono ?_
  rintro e w15 ⟨rfl, bb⟩
  replace OM := Lib.hid (OM.out.later bb)
  replace BX := Lib.hid (below_step BX.out bb)
  clear bb
  obtain ⟨p0, p1, p2, p3, p4⟩ := fm_cells (blk_below KA.out BX.out)
  go_wp2_with fail
  go_region_held3 (fun W => W.cell? ⟨w.heap.size, 0, none⟩ = some (.int .i64 x.f0) ∧ W.cell? ⟨w.heap.size, 1, none⟩ = some (.string x.f1) ∧ W.cell? ⟨w.heap.size, 2, none⟩ = some (.int .i64 x.f2) ∧ W.cell? ⟨w.heap.size, 3, none⟩ = some (.slice A3 x.f3.length Ac3) ∧ W.cell? ⟨w.heap.size, 4, none⟩ = some (.slice A4 x.f4.length Ac4)) (first | go_keep | exact keepFive (below_step (Below.refl _ _).drew hba) ⟨p0, p1, p2, p3, p4⟩ | exact keepFive (below_step (below_step (Below.refl _ _).drew hba) hbb) ⟨p0, p1, p2, p3, p4⟩ | exact keepFive (below_step (below_step (below_step (Below.refl _ _).drew hba) hbb) hbs) ⟨p0, p1, p2, p3, p4⟩)
    ((first
      | (go_at_call 13; refine (toB_any l LA lc _ (HR.out _ (below_step BW.out BX.out).drew) hc HS.out).mono ?_; rintro e wa ⟨PA, pc, rfl, hpc, hP, hba⟩)
      | (go_at_call 14; refine (toFormG x A3 Ac3 A4 Ac4 _ (HI.out.below (below_step (below_step BW.out BX.out).drew hba)) ht).mono ?_; rintro e wb ⟨R3, Rc3, R4, Rc4, rfl, ob, hbb⟩)
      | (go_at_call 26; refine (implAddBO HF.out PA pc R3 Rc3 R4 Rc4 _ (Kd.C_below hP hbb) hpc ob HS.out ht).mono ?_; rintro e w16 ⟨HA, Hc, rfl, ou, hbs⟩)))
  have bb := below_step (below_step (below_step (Below.refl _ _).drew hba) hbb) hbs
  have IH := Lib.hid ou.now
  replace OM := Lib.hid (OM.out.later bb)
  replace BX := Lib.hid (below_step BX.out bb)
  clear bb hba hbb hbs ob ou hP hpc p0 p1 p2 p3 p4
  go_wp2_with fail
  refine (eqB_any r HA Hc UA Uc _ IH.out.2 IH.out.1 (Kd.C_below IU.out.2 BX.out) IU.out.1 HSR.out).mono ?_
  rintro e w17 ⟨rfl, bb⟩
  replace OM := Lib.hid (OM.out.later bb)
  replace BX := Lib.hid (below_step BX.out bb)
  clear bb IH
  go_wp2_with fail
  refine (heldBindS_own 1 OM.out (by omega) (by omega)).mono ?_
  rintro e w18 ⟨rfl, bb⟩
  replace OM := Lib.hid (OM.out.later bb)
  replace BX := Lib.hid (below_step BX.out bb)
  clear bb
  go_wp2_with fail
  go_ret
  exact ⟨rfl, below_step BW.out BX.out⟩
end Go.Proofs.Ytlklclebjeeaaaa
end
section
namespace Go.Proofs.Ytlklclebjeeaaaa.fnExactAddBind
open Go.ChangeShapes Go.WideShapes Go.ChangeAt Go.RowKit Go.Proofs.Ytlklclebjeeaaaa
open Go.ChangeMaps (open_string shut_string)
set_option linter.unusedVariables false
theorem own : ownKnob Try.prog.godebug = none := by kernel_rfl
theorem laidOut : laidOutB Try.prog = true := by kernel_rfl
set_option maxRecDepth 100000 in
theorem lifted (os : Os) (started : os.Started) (H : Type) (enc : TypeId × Value → H) :
    ReturnsInHanded {} Try.checked os 5 .any (Rows.fnExactAddBindSpec.pre6 enc Try.prog Try.f5 Rows.fnExactAddBindRow.domain false) (Rows.fnExactAddBindSpec.post enc Try.prog Try.f5 false true false false) := by
  refine returnsInHanded_of_change_sized (C := Try.checked) own started (by kernel_rfl) Try.func5
    (ChangeSpec.witness6 (enc := enc) (C := Try.checked) false ⟨#[], #[.slice none 0 0, .agg #[.int .i64 0, .string ByteArray.empty, .int .i64 0, .slice none 0 0, .slice none 0 0], .int .i64 0], []⟩ 8 (by kernel_rfl) (by kernel_rfl) (by kernel_rfl) (by kernel_rfl)) ?_
  intro W base args ds gs before hval0 hW hcnd hsz0 _
  have hsz : (DataW.weightsEach Try.prog (Try.f5.params.toList ++ Rows.fnExactAddBindSpec.plain.varTypes Try.prog) (ds ++ gs)).all (· ≤ reachBytes) = true := hsz0
  have hval : ∀ (j : Nat) t v, Try.f5.params[j]? = some t → args[j]? = some v → Value.okWide Try.prog W .any base t v := hval0
  have hW' := hW
  obtain ⟨p, q, hA0, hV, rfl, hfz, hnd⟩ := hW
  have hA : DataW.TrodAll enc Try.prog W 0 (fun _ => true) true Try.f5.params.toList args.toList ds p := hA0
  rw [Try.params5] at hA hval hsz
  obtain ⟨v0, vs0, d0, ds0, p0, q0, hargs, rfl, rfl, h0, r0⟩ := trodAll_cons hA
  obtain ⟨v1, vs1, d1, ds1, p1, q1, rfl, rfl, rfl, h1, r1⟩ := trodAll_cons r0
  obtain ⟨v2, vs2, d2, ds2, p2, q2, rfl, rfl, rfl, h2, r2⟩ := trodAll_cons r1
  obtain ⟨rfl, rfl, rfl⟩ := trodAll_nil r2
  obtain rfl : args = #[v0, v1, v2] := by cases args; simp_all
  obtain ⟨rfl, rfl⟩ := trodVars_none hV
  have k0 := h0
  have lt0 : ∀ x ∈ p0, x.block < W.heap.size := by obtain ⟨m, hm⟩ := k0; exact DataW.trod_lt m _ _ _ hm
  obtain ⟨x0, A0, c0, rfl, hc0, hr0, z0⟩ := open_binds (hval 0 22 v0 rfl rfl) h0
  have k1 := h1
  have lt1 : ∀ x ∈ p1, x.block < W.heap.size := by obtain ⟨m, hm⟩ := k1; exact DataW.trod_lt m _ _ _ hm
  obtain ⟨x1, A1, c1, B1, e1, rfl, i1, z1⟩ := open_form (hval 1 26 v1 rfl rfl) h1
  obtain ⟨a2, rfl, rfl, rfl, w2⟩ := open_int Try.underlying3 (hval 2 3 v2 rfl rfl) h2
  clear hA0 hval0 hsz0 hsz
  refine (fnExactAddBind_walk x0 A0 c0 x1 A1 c1 B1 e1 a2 W hc0 hr0 z0 i1 z1 w2).mono fun e W' ⟨he, bel⟩ => ?_
  subst he
  exact ⟨_, rfl, _, _, _, [], _, [], hW', trodAll_mk1 (shut_bool Try.underlying4 _), (trodAll_cons_mk (Below.trod laidOut (by kernel_rfl) (of_decide_eq_true (by kernel_rfl)) k0 bel lt0) (trodAll_cons_mk (Below.trod laidOut (by kernel_rfl) (of_decide_eq_true (by kernel_rfl)) k1 bel lt1) (trodAll_cons_mk (shut_int Try.underlying3 w2) trodAll_mk0))), rfl, bel.frame _, fun h => by cases h⟩
set_option maxRecDepth 100000 in
theorem closed : joinedFacts Try.prog 5 Try.f5 Rows.fnExactAddBindSpec Rows.fnExactAddBindRow = true := by
  unfold joinedFacts
  refine Bool.and_eq_true_iff.2 ⟨Bool.and_eq_true_iff.2 ⟨Bool.and_eq_true_iff.2 ⟨Bool.and_eq_true_iff.2 ⟨Bool.and_eq_true_iff.2 ⟨Bool.and_eq_true_iff.2 ⟨Bool.and_eq_true_iff.2 ⟨?_, mayEnter_yes⟩, (congrArg (fun b => Rows.fnExactAddBindRow.lifted == b) liftsFinal_no).trans (by kernel_rfl)⟩, (congrArg (fun b => b == some Rows.fnExactAddBindRow.make) make_cut).trans (by kernel_rfl)⟩, ?_⟩, ?_⟩, ?_⟩, ?_⟩
  all_goals kernel_rfl
theorem over : Rows.fnExactAddBindRow.holds Try.pinned (OpenSpec.ofChange Rows.fnExactAddBindSpec) :=
  OpenClaim.holds_of_wide 5 Try.f5 rfl rfl rfl rfl rfl rfl rfl ⟨rfl, rfl, rfl, rfl, rfl⟩ rfl rfl rfl rfl rfl (by kernel_rfl) Try.func5 closed
    (of_decide_eq_true (by kernel_rfl)) (by unfold Func.isWrapper; first | (rw [if_pos (by decide +kernel)]; kernel_rfl) | (rw [if_neg (by decide +kernel)]; exact ⟨rfl, rfl⟩))
    (fun os started H enc _ => lifted os started H enc)
end Go.Proofs.Ytlklclebjeeaaaa.fnExactAddBind
namespace Go.Proofs.Ytlklclebjeeaaaa
/-- The row. -/
theorem fnExactAddBind_holds : Rows.FnExactAddBindSaid := fnExactAddBind.over
#print axioms fnExactAddBind_holds
end Go.Proofs.Ytlklclebjeeaaaa
end
