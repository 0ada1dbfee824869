/- The program's SameReference returns what the reference's returns, and leaves its arguments alone. For every input the law FnExactSameReference returns true, and leaves its input alone. No condition. -/
import Derived.Below
import Derived.ChangeOld
import Derived.Deep.RegionHeld3
import Derived.JoinedOf
import Derived.KernelRfl
import Derived.OpenShut
import Derived.ProofKit
import Derived.RowKit3
import Derived.ShutString
import Derived.SizedLaws
import Derived.Test.YtnjfmpmoaaahlaaRows
import Derived.WalkKit
import Derived.Test.YtnjfmpmoaaahlaaMb1
import Derived.Test.YtnjfmpmoaaahlaaMb2
import Derived.Test.YtnjfmpmoaaahlaaMb4
import Derived.Test.YtnjfmpmoaaahlaaMb5
section
namespace Go.Proofs.Ytnjfmpmoaaahlaa
open Go.RowKit Go.Proofs.YtnjfmpmoaaahlaaW.PrintWords Go.Proofs.YtnjfmpmoaaahlaaW.PrintLast Go.Proofs.YtnjfmpmoaaahlaaW.PrintMore
set_option linter.unusedVariables false
set_option linter.unusedSimpArgs false
theorem toFormG (x : Fm) (A3 : Option Addr) (c3 : Nat) (A4 : Option Addr) (c4 : Nat) (w : World) (hin : FmIn w x A3 c3 A4 c4) (ht : x.tot ≤ 1048576) :
    Calls Try.prog 9 #[.agg #[.int .i64 x.f0, .string x.f1, .int .i64 x.f2, .slice A3 x.f3.length c3, .slice A4 x.f4.length c4]] w (fun e w' => ∃ (B3 : Option Addr) (d3 : Nat) (B4 : Option Addr) (d4 : Nat), e = .returned (.agg #[.int .i64 x.f0, .string x.f1, .int .i64 x.f2, .slice B3 x.f3.length d3, .slice B4 x.f4.length d4]) ∧ FmIn w' x B3 d3 B4 d4 ∧ Below w.heap.size w w') := by
  refine (toForm_any x A3 c3 A4 c4 w hin ht).mono ?_
  rintro e w' ⟨v3, v4, rfl, ⟨fp, ht2, _, _⟩, hb⟩
  obtain ⟨E3, g3, E4, g4, rfl, rfl, ia⟩ := ht2.In
  exact ⟨E3, g3, E4, g4, rfl, ia, hb⟩
theorem keepTenB {w1 w2 : World} (hb : Below w1.heap.size w1 w2) {a0 a1 a2 a3 a4 a5 a6 a7 a8 a9 : Addr} {v0 v1 v2 v3 v4 v5 v6 v7 v8 v9 : Value} (h : w1.cell? a0 = some v0 ∧ w1.cell? a1 = some v1 ∧ w1.cell? a2 = some v2 ∧ w1.cell? a3 = some v3 ∧ w1.cell? a4 = some v4 ∧ w1.cell? a5 = some v5 ∧ w1.cell? a6 = some v6 ∧ w1.cell? a7 = some v7 ∧ w1.cell? a8 = some v8 ∧ w1.cell? a9 = some v9) :
    w2.cell? a0 = some v0 ∧ w2.cell? a1 = some v1 ∧ w2.cell? a2 = some v2 ∧ w2.cell? a3 = some v3 ∧ w2.cell? a4 = some v4 ∧ w2.cell? a5 = some v5 ∧ w2.cell? a6 = some v6 ∧ w2.cell? a7 = some v7 ∧ w2.cell? a8 = some v8 ∧ w2.cell? a9 = some v9 :=
  let ⟨h0, h1, h2, h3, h4, h5, h6, h7, h8, h9⟩ := h
  ⟨ck0 hb h0, ck0 hb h1, ck0 hb h2, ck0 hb h3, ck0 hb h4, ck0 hb h5, ck0 hb h6, ck0 hb h7, ck0 hb h8, ck0 hb h9⟩
theorem specSame' {l : List Bd} {x y : Fm} {r : Bool} (hf : sameR l x y = r) (A : Option Addr) (c : Nat) (A3 : Option Addr) (c3 : Nat) (A4 : Option Addr) (c4 : Nat) (B3 : Option Addr) (d3 : Nat) (B4 : Option Addr) (d4 : Nat) (w : World) (hr : kB.C w A l.length l) (hc : l.length ≤ c) (hx : FmIn w x A3 c3 A4 c4) (hy : FmIn w y B3 d3 B4 d4) (hs : SmB l) (tx : x.tot ≤ 1048576) (ty : y.tot ≤ 1048576) :
    Calls Try.prog 13 #[.slice A l.length c, .agg #[.int .i64 x.f0, .string x.f1, .int .i64 x.f2, .slice A3 x.f3.length c3, .slice A4 x.f4.length c4], .agg #[.int .i64 y.f0, .string y.f1, .int .i64 y.f2, .slice B3 y.f3.length d3, .slice B4 y.f4.length d4]] w (Ret w (.bool r)) := by
  have h := specSameRef_any l A c x A3 c3 A4 c4 y B3 d3 B4 d4 w hr hc hx hy hs tx ty
  rw [hf] at h
  exact h
theorem implSame' {l : List Bd} {x y : Fm} {r : Bool} (hf : sameR l x y = r) (A : Option Addr) (c : Nat) (A3 : Option Addr) (c3 : Nat) (A4 : Option Addr) (c4 : Nat) (B3 : Option Addr) (d3 : Nat) (B4 : Option Addr) (d4 : Nat) (w : World) (hr : kB.C w A l.length l) (hc : l.length ≤ c) (hx : FmIn w x A3 c3 A4 c4) (hy : FmIn w y B3 d3 B4 d4) (hs : SmB l) (tx : x.tot ≤ 1048576) (ty : y.tot ≤ 1048576) :
    Calls Try.prog 14 #[.slice A l.length c, .agg #[.int .i64 x.f0, .string x.f1, .int .i64 x.f2, .slice A3 x.f3.length c3, .slice A4 x.f4.length c4], .agg #[.int .i64 y.f0, .string y.f1, .int .i64 y.f2, .slice B3 y.f3.length d3, .slice B4 y.f4.length d4]] w (Ret w (.bool r)) := by
  have h := implSameRef_any l A c x A3 c3 A4 c4 y B3 d3 B4 d4 w hr hc hx hy hs tx ty
  rw [hf] at h
  exact h
set_option maxHeartbeats 4000000 in
set_option maxRecDepth 100000 in
theorem fnExactSameReference_walk (l : List Bd) (LA : Option Addr) (lc : Nat) (x : Fm) (A3 : Option Addr) (Ac3 : Nat) (A4 : Option Addr) (Ac4 : Nat) (y : Fm) (B3 : Option Addr) (Bc3 : Nat) (B4 : Option Addr) (Bc4 : Nat) (w : World) (hc : l.length ≤ lc) (hr : kB.C w LA l.length l) (hl : ∀ b, b ∈ l → BdSmall b) (hin : FmIn w x A3 Ac3 A4 Ac4) (hnm : NmSmall x) (hiny : FmIn w y B3 Bc3 B4 Bc4) (hnmy : NmSmall y) :
    Calls Try.prog 4 #[.slice LA l.length lc, .agg #[.int .i64 x.f0, .string x.f1, .int .i64 x.f2, .slice A3 x.f3.length Ac3, .slice A4 x.f4.length Ac4], .agg #[.int .i64 y.f0, .string y.f1, .int .i64 y.f2, .slice B3 y.f3.length Bc3, .slice B4 y.f4.length Bc4]] w fun e w' => e = .returned (.bool true) ∧ Below w.heap.size w w' := by
  have hmax := hr.2.1
  have HZ := Lib.hid (fun W hb => szB_any l LA lc W (Kd.C_below hr hb) hc hl (by omega))
  have HZ2 := Lib.hid (fun W hb (hq : l.length + totB l ≤ 1048576) => szForm_any x A3 Ac3 A4 Ac4 (1048576 - ((l.length + totB l : Nat) : Int)) W (hin.below hb) hnm (by omega) (by omega))
  have HZ3 := Lib.hid (fun W hb (hq : l.length + totB l ≤ 1048576) (hq2 : (x.tot : Int) ≤ 1048576 - ((l.length + totB l : Nat) : Int)) => szForm_any y B3 Bc3 B4 Bc4 (1048576 - ((l.length + totB l : Nat) : Int) - (x.tot : Int)) W (hiny.below hb) hnmy (by omega) (by omega))
  have HI := Lib.hid hin
  have HJ := Lib.hid hiny
  have HR := Lib.hid (fun W (hb : Below w.heap.size w W) => Kd.C_below hr hb)
  clear hin hiny hr hl
  obtain ⟨r, hrr⟩ : ∃ r, sameR l x y = r := ⟨_, rfl⟩
  have HF := Lib.hid hrr
  clear hrr
  go_enter Try.func4, Try.ntmps4
  go_wp2_with fail
  refine (HZ.out _ (below_step (below_new _ _) (below_new _ _))).mono ?_
  rintro e w1 ⟨rfl, hb1⟩
  obtain ⟨k1, l1, b1⟩ := two_new hb1
  have KA := Lib.hid k1
  have KB := Lib.hid l1
  have BW := Lib.hid b1
  clear hb1 k1 l1 b1 HZ
  by_cases hq : l.length + totB l ≤ 1048576
  rotate_left
  · rw [szR_no (by omega)]
    have hd9 : decide ((-1 : Int) < 0) = true := by simp
    go_wp2_with fail
    go_ret
    exact ⟨rfl, BW.out⟩
  rw [szR_yes (by omega)]
  have hd : decide ((1048576 : Int) - ((l.length + totB l : Nat) : Int) < 0) = false := decide_eq_false (by omega)
  obtain ⟨p0, p1, p2, p3, p4⟩ := fm_cells KA.out
  go_wp2_with fail
  clear p0 p1 p2 p3 p4
  refine (HZ2.out _ BW.out hq).mono ?_
  rintro e w2 ⟨rfl, bb⟩
  replace KA := Lib.hid (blk_below KA.out bb)
  replace KB := Lib.hid (blk_below KB.out bb)
  replace BW := Lib.hid (below_step BW.out bb)
  clear bb HZ2
  by_cases hq2 : (x.tot : Int) ≤ 1048576 - ((l.length + totB l : Nat) : Int)
  rotate_left
  · rw [szR_no (by omega)]
    have hd9 : decide ((-1 : Int) < 0) = true := by simp
    go_wp2_with fail
    go_ret
    exact ⟨rfl, BW.out⟩
  rw [szR_yes hq2]
  have hd2 : decide ((1048576 : Int) - ((l.length + totB l : Nat) : Int) - (x.tot : Int) < 0) = false := decide_eq_false (by omega)
  obtain ⟨p0, p1, p2, p3, p4⟩ := fm_cells KB.out
  go_wp2_with fail
  clear p0 p1 p2 p3 p4
  refine (HZ3.out _ BW.out hq hq2).mono ?_
  rintro e w3 ⟨rfl, bb⟩
  replace KA := Lib.hid (blk_below KA.out bb)
  replace KB := Lib.hid (blk_below KB.out bb)
  replace BW := Lib.hid (below_step BW.out bb)
  clear bb HZ3
  by_cases hq3 : (y.tot : Int) ≤ 1048576 - ((l.length + totB l : Nat) : Int) - (x.tot : Int)
  rotate_left
  · rw [szR_no (by omega)]
    have hd9 : decide ((-1 : Int) < 0) = true := by simp
    go_wp2_with fail
    go_ret
    exact ⟨rfl, BW.out⟩
  rw [szR_yes hq3]
  have hd3 : decide ((1048576 : Int) - ((l.length + totB l : Nat) : Int) - (x.tot : Int) - (y.tot : Int) < 0) = false := decide_eq_false (by omega)
  have tx : x.tot ≤ 1048576 := by omega
  have ty : y.tot ≤ 1048576 := by omega
  have HS := Lib.hid (smB_of hq)
  obtain ⟨p0, p1, p2, p3, p4⟩ := fm_cells KA.out
  obtain ⟨q0, q1, q2, q3, q4⟩ := fm_cells KB.out
  go_wp2_with fail
  go_region_held3 (fun W => W.cell? ⟨w.heap.size, 0, none⟩ = some (.int .i64 x.f0) ∧ W.cell? ⟨w.heap.size, 1, none⟩ = some (.string x.f1) ∧ W.cell? ⟨w.heap.size, 2, none⟩ = some (.int .i64 x.f2) ∧ W.cell? ⟨w.heap.size, 3, none⟩ = some (.slice A3 x.f3.length Ac3) ∧ W.cell? ⟨w.heap.size, 4, none⟩ = some (.slice A4 x.f4.length Ac4) ∧ W.cell? ⟨w.heap.size + 1, 0, none⟩ = some (.int .i64 y.f0) ∧ W.cell? ⟨w.heap.size + 1, 1, none⟩ = some (.string y.f1) ∧ W.cell? ⟨w.heap.size + 1, 2, none⟩ = some (.int .i64 y.f2) ∧ W.cell? ⟨w.heap.size + 1, 3, none⟩ = some (.slice B3 y.f3.length Bc3) ∧ W.cell? ⟨w.heap.size + 1, 4, none⟩ = some (.slice B4 y.f4.length Bc4)) (first | go_keep | exact keepTenB (below_step (Below.refl _ _).drew hba) ⟨p0, p1, p2, p3, p4, q0, q1, q2, q3, q4⟩ | exact keepTenB (below_step (below_step (Below.refl _ _).drew hba) hbb) ⟨p0, p1, p2, p3, p4, q0, q1, q2, q3, q4⟩ | exact keepTenB (below_step (below_step (below_step (Below.refl _ _).drew hba) hbb) hbc) ⟨p0, p1, p2, p3, p4, q0, q1, q2, q3, q4⟩ | exact keepTenB (below_step (below_step (below_step (below_step (Below.refl _ _).drew hba) hbb) hbc) hbs) ⟨p0, p1, p2, p3, p4, q0, q1, q2, q3, q4⟩)
    ((first
      | (go_at_call 8; refine (toB_any l LA lc _ (HR.out _ BW.out.drew) hc HS.out).mono ?_; rintro e wa ⟨PA, pc, rfl, hpc, hP, hba⟩)
      | (go_at_call 9; (with_reducible refine Calls.mono (toFormG x A3 Ac3 A4 Ac4 _ (HI.out.below (below_step BW.out.drew hba)) tx) ?_); rintro e wb ⟨R3, Rc3, R4, Rc4, rfl, ob, hbb⟩)
      | (go_at_call 9; (with_reducible refine Calls.mono (toFormG y B3 Bc3 B4 Bc4 _ (HJ.out.below (below_step (below_step BW.out.drew hba) hbb)) ty) ?_); rintro e wc ⟨S3, Sc3, S4, Sc4, rfl, oc, hbc⟩)
      | (go_at_call 13; refine (specSame' HF.out PA pc R3 Rc3 R4 Rc4 S3 Sc3 S4 Sc4 _ (Kd.C_below (Kd.C_below hP hbb) hbc) hpc (ob.below hbc) oc HS.out tx ty).mono ?_; rintro e ws ⟨rfl, hbs⟩)))
  have bs := (below_step (below_step (below_step (below_step (Below.refl _ _).drew hba) hbb) hbc) hbs)
  replace KA := Lib.hid (blk_below KA.out bs)
  replace KB := Lib.hid (blk_below KB.out bs)
  replace BW := Lib.hid (below_step BW.out bs)
  clear bs hba hbb hbc hbs ob oc hP hpc p0 p1 p2 p3 p4 q0 q1 q2 q3 q4
  go_wp2_with fail
  refine (toB_any l LA lc _ (HR.out _ BW.out) hc HS.out).mono ?_
  rintro e w4 ⟨XA, Xc, rfl, hxc, hX, bb⟩
  have IX := Lib.hid (And.intro hxc hX)
  replace KA := Lib.hid (blk_below KA.out bb)
  replace KB := Lib.hid (blk_below KB.out bb)
  replace BW := Lib.hid (below_step BW.out bb)
  clear bb hxc hX
  obtain ⟨p0, p1, p2, p3, p4⟩ := fm_cells KA.out
  go_wp2_with fail
  clear p0 p1 p2 p3 p4
  refine (toFormG x A3 Ac3 A4 Ac4 w4 (HI.out.below BW.out) tx).mono ?_
  rintro e w5 ⟨Y3, Yc3, Y4, Yc4, rfl, oy, bb⟩
  have IY := Lib.hid oy
  replace KA := Lib.hid (blk_below KA.out bb)
  replace KB := Lib.hid (blk_below KB.out bb)
  replace IX := Lib.hid (And.intro IX.out.1 (Kd.C_below IX.out.2 bb))
  replace BW := Lib.hid (below_step BW.out bb)
  clear oy bb
  have bn := below_new w5 (.cells #[.int .i64 x.f0, .string x.f1, .int .i64 x.f2, .slice Y3 x.f3.length Yc3, .slice Y4 x.f4.length Yc4] 35)
  obtain ⟨p0, p1, p2, p3, p4⟩ := fm_cells (blk_below KB.out bn)
  go_wp2_with fail
  clear p0 p1 p2 p3 p4
  refine (toFormG y B3 Bc3 B4 Bc4 _ (HJ.out.below (below_step BW.out bn)) ty).mono ?_
  rintro e w6 ⟨Z3, Zc3, Z4, Zc4, rfl, oz, bb⟩
  obtain ⟨ky, bb⟩ := one_new bb
  have KY := Lib.hid ky
  have IZ := Lib.hid oz
  replace KA := Lib.hid (blk_below KA.out bb)
  replace KB := Lib.hid (blk_below KB.out bb)
  replace IY := Lib.hid (IY.out.below bb)
  replace IX := Lib.hid (And.intro IX.out.1 (Kd.C_below IX.out.2 bb))
  replace BW := Lib.hid (below_step BW.out bb)
  clear oz bb bn ky
  have bn := below_new w6 (.cells #[.int .i64 y.f0, .string y.f1, .int .i64 y.f2, .slice Z3 y.f3.length Zc3, .slice Z4 y.f4.length Zc4] 35)
  obtain ⟨p0, p1, p2, p3, p4⟩ := fm_cells (blk_below KY.out bn)
  go_wp2_with fail
  clear p0 p1 p2 p3 p4
  refine (implSame' HF.out XA Xc Y3 Yc3 Y4 Yc4 Z3 Zc3 Z4 Zc4 _ (Kd.C_below IX.out.2 bn) IX.out.1 (IY.out.below bn) (IZ.out.below bn) HS.out tx ty).mono ?_
  rintro e w7 ⟨rfl, bb⟩
  obtain ⟨kz, bb⟩ := one_new bb
  have KZ := Lib.hid kz
  replace KA := Lib.hid (blk_below KA.out bb)
  replace KB := Lib.hid (blk_below KB.out bb)
  replace KY := Lib.hid (blk_below KY.out bb)
  replace IY := Lib.hid (IY.out.below bb)
  replace IZ := Lib.hid (IZ.out.below bb)
  replace IX := Lib.hid (And.intro IX.out.1 (Kd.C_below IX.out.2 bb))
  replace BW := Lib.hid (below_step BW.out bb)
  clear bb bn kz
  have hn0 : (r != r) = false := by simp
  go_wp2_with fail
  refine (toB_any l LA lc _ (HR.out _ BW.out) hc HS.out).mono ?_
  rintro e w8 ⟨QA, Qc, rfl, hqc, hQ, bb⟩
  have IQ := Lib.hid (And.intro hqc hQ)
  replace KA := Lib.hid (blk_below KA.out bb)
  replace KB := Lib.hid (blk_below KB.out bb)
  replace KY := Lib.hid (blk_below KY.out bb)
  replace KZ := Lib.hid (blk_below KZ.out bb)
  replace IY := Lib.hid (IY.out.below bb)
  replace IZ := Lib.hid (IZ.out.below bb)
  replace IX := Lib.hid (And.intro IX.out.1 (Kd.C_below IX.out.2 bb))
  replace BW := Lib.hid (below_step BW.out bb)
  clear bb hqc hQ
  go_wp2_with fail
  refine (eqB_any l XA Xc QA Qc w8 IX.out.2 IX.out.1 IQ.out.2 IQ.out.1 HS.out).mono ?_
  rintro e w9 ⟨rfl, bb⟩
  replace KA := Lib.hid (blk_below KA.out bb)
  replace KB := Lib.hid (blk_below KB.out bb)
  replace KY := Lib.hid (blk_below KY.out bb)
  replace KZ := Lib.hid (blk_below KZ.out bb)
  replace IY := Lib.hid (IY.out.below bb)
  replace IZ := Lib.hid (IZ.out.below bb)
  replace BW := Lib.hid (below_step BW.out bb)
  clear bb IX IQ
  obtain ⟨p0, p1, p2, p3, p4⟩ := fm_cells KA.out
  obtain ⟨q0, q1, q2, q3, q4⟩ := fm_cells KY.out
  go_wp2_with fail
  go_region_held3 (fun W => W.cell? ⟨w.heap.size, 0, none⟩ = some (.int .i64 x.f0) ∧ W.cell? ⟨w.heap.size, 1, none⟩ = some (.string x.f1) ∧ W.cell? ⟨w.heap.size, 2, none⟩ = some (.int .i64 x.f2) ∧ W.cell? ⟨w.heap.size, 3, none⟩ = some (.slice A3 x.f3.length Ac3) ∧ W.cell? ⟨w.heap.size, 4, none⟩ = some (.slice A4 x.f4.length Ac4) ∧ W.cell? ⟨w5.heap.size, 0, none⟩ = some (.int .i64 x.f0) ∧ W.cell? ⟨w5.heap.size, 1, none⟩ = some (.string x.f1) ∧ W.cell? ⟨w5.heap.size, 2, none⟩ = some (.int .i64 x.f2) ∧ W.cell? ⟨w5.heap.size, 3, none⟩ = some (.slice Y3 x.f3.length Yc3) ∧ W.cell? ⟨w5.heap.size, 4, none⟩ = some (.slice Y4 x.f4.length Yc4)) (first | go_keep | exact keepTenB (below_step (Below.refl _ _).drew hba) ⟨p0, p1, p2, p3, p4, q0, q1, q2, q3, q4⟩ | exact keepTenB (below_step (below_step (Below.refl _ _).drew hba) hbs) ⟨p0, p1, p2, p3, p4, q0, q1, q2, q3, q4⟩)
    ((first
      | (go_at_call 9; refine (toFormG x A3 Ac3 A4 Ac4 _ (HI.out.below BW.out.drew) tx).mono ?_; rintro e wa1 ⟨V3, Vc3, V4, Vc4, rfl, ov, hba⟩)
      | (go_at_call 12; refine (eqForm_any x x _ _ _ _ _ _ _ _ _ (IY.out.below (below_step (Below.refl _ _).drew hba)) ov).mono ?_; rintro e ws1 ⟨rfl, hbs⟩)))
  have bs := below_step (below_step (Below.refl _ _).drew hba) hbs
  replace KA := Lib.hid (blk_below KA.out bs)
  replace KB := Lib.hid (blk_below KB.out bs)
  replace KY := Lib.hid (blk_below KY.out bs)
  replace KZ := Lib.hid (blk_below KZ.out bs)
  replace IY := Lib.hid (IY.out.below bs)
  replace IZ := Lib.hid (IZ.out.below bs)
  replace BW := Lib.hid (below_step BW.out bs)
  clear bs hba hbs ov p0 p1 p2 p3 p4 q0 q1 q2 q3 q4
  rw [eqB_self]
  obtain ⟨p0, p1, p2, p3, p4⟩ := fm_cells KB.out
  obtain ⟨q0, q1, q2, q3, q4⟩ := fm_cells KZ.out
  go_wp2_with fail
  go_region_held3 (fun W => W.cell? ⟨w.heap.size + 1, 0, none⟩ = some (.int .i64 y.f0) ∧ W.cell? ⟨w.heap.size + 1, 1, none⟩ = some (.string y.f1) ∧ W.cell? ⟨w.heap.size + 1, 2, none⟩ = some (.int .i64 y.f2) ∧ W.cell? ⟨w.heap.size + 1, 3, none⟩ = some (.slice B3 y.f3.length Bc3) ∧ W.cell? ⟨w.heap.size + 1, 4, none⟩ = some (.slice B4 y.f4.length Bc4) ∧ W.cell? ⟨w6.heap.size, 0, none⟩ = some (.int .i64 y.f0) ∧ W.cell? ⟨w6.heap.size, 1, none⟩ = some (.string y.f1) ∧ W.cell? ⟨w6.heap.size, 2, none⟩ = some (.int .i64 y.f2) ∧ W.cell? ⟨w6.heap.size, 3, none⟩ = some (.slice Z3 y.f3.length Zc3) ∧ W.cell? ⟨w6.heap.size, 4, none⟩ = some (.slice Z4 y.f4.length Zc4)) (first | go_keep | exact keepTenB (below_step (Below.refl _ _).drew hba) ⟨p0, p1, p2, p3, p4, q0, q1, q2, q3, q4⟩ | exact keepTenB (below_step (below_step (Below.refl _ _).drew hba) hbs) ⟨p0, p1, p2, p3, p4, q0, q1, q2, q3, q4⟩)
    ((first
      | (go_at_call 9; refine (toFormG y B3 Bc3 B4 Bc4 _ (HJ.out.below BW.out.drew) ty).mono ?_; rintro e wa2 ⟨V3, Vc3, V4, Vc4, rfl, ov, hba⟩)
      | (go_at_call 12; refine (eqForm_any y y _ _ _ _ _ _ _ _ _ (IZ.out.below (below_step (Below.refl _ _).drew hba)) ov).mono ?_; rintro e ws2 ⟨rfl, hbs⟩)))
  have bs := below_step (below_step (Below.refl _ _).drew hba) hbs
  replace KA := Lib.hid (blk_below KA.out bs)
  replace KB := Lib.hid (blk_below KB.out bs)
  replace KY := Lib.hid (blk_below KY.out bs)
  replace KZ := Lib.hid (blk_below KZ.out bs)
  replace IY := Lib.hid (IY.out.below bs)
  replace IZ := Lib.hid (IZ.out.below bs)
  replace BW := Lib.hid (below_step BW.out bs)
  clear bs hba hbs ov p0 p1 p2 p3 p4 q0 q1 q2 q3 q4
  rw [eqB_self]
  go_wp2_with fail
  go_ret
  exact ⟨rfl, BW.out⟩
end Go.Proofs.Ytnjfmpmoaaahlaa
end
section
namespace Go.Proofs.Ytnjfmpmoaaahlaa.fnExactSameReference
open Go.ChangeShapes Go.WideShapes Go.ChangeAt Go.RowKit Go.Proofs.Ytnjfmpmoaaahlaa
open Go.ChangeMaps (open_string shut_string)
set_option linter.unusedVariables false
theorem own : ownKnob Try.prog.godebug = none := by kernel_rfl
theorem laidOut : laidOutB Try.prog = true := by kernel_rfl
set_option maxRecDepth 100000 in
theorem lifted (os : Os) (started : os.Started) (H : Type) (enc : TypeId × Value → H) :
    ReturnsInHanded {} Try.checked os 4 .any (Rows.fnExactSameReferenceSpec.pre6 enc Try.prog Try.f4 Rows.fnExactSameReferenceRow.domain false) (Rows.fnExactSameReferenceSpec.post enc Try.prog Try.f4 false true false false) := by
  refine returnsInHanded_of_change_sized (C := Try.checked) own started (by kernel_rfl) Try.func4
    (ChangeSpec.witness6 (enc := enc) (C := Try.checked) false ⟨#[], #[.slice none 0 0, .agg #[.int .i64 0, .string ByteArray.empty, .int .i64 0, .slice none 0 0, .slice none 0 0], .agg #[.int .i64 0, .string ByteArray.empty, .int .i64 0, .slice none 0 0, .slice none 0 0]], []⟩ 8 (by kernel_rfl) (by kernel_rfl) (by kernel_rfl) (by kernel_rfl)) ?_
  intro W base args ds gs before hval0 hW hcnd hsz0 _
  have hsz : (DataW.weightsEach Try.prog (Try.f4.params.toList ++ Rows.fnExactSameReferenceSpec.plain.varTypes Try.prog) (ds ++ gs)).all (· ≤ reachBytes) = true := hsz0
  have hval : ∀ (j : Nat) t v, Try.f4.params[j]? = some t → args[j]? = some v → Value.okWide Try.prog W .any base t v := hval0
  have hW' := hW
  obtain ⟨p, q, hA0, hV, rfl, hfz, hnd⟩ := hW
  have hA : DataW.TrodAll enc Try.prog W 0 (fun _ => true) true Try.f4.params.toList args.toList ds p := hA0
  rw [Try.params4] at hA hval hsz
  obtain ⟨v0, vs0, d0, ds0, p0, q0, hargs, rfl, rfl, h0, r0⟩ := trodAll_cons hA
  obtain ⟨v1, vs1, d1, ds1, p1, q1, rfl, rfl, rfl, h1, r1⟩ := trodAll_cons r0
  obtain ⟨v2, vs2, d2, ds2, p2, q2, rfl, rfl, rfl, h2, r2⟩ := trodAll_cons r1
  obtain ⟨rfl, rfl, rfl⟩ := trodAll_nil r2
  obtain rfl : args = #[v0, v1, v2] := by cases args; simp_all
  obtain ⟨rfl, rfl⟩ := trodVars_none hV
  have k0 := h0
  have lt0 : ∀ x ∈ p0, x.block < W.heap.size := by obtain ⟨m, hm⟩ := k0; exact DataW.trod_lt m _ _ _ hm
  obtain ⟨x0, A0, c0, rfl, hc0, hr0, z0⟩ := open_binds (hval 0 22 v0 rfl rfl) h0
  have k1 := h1
  have lt1 : ∀ x ∈ p1, x.block < W.heap.size := by obtain ⟨m, hm⟩ := k1; exact DataW.trod_lt m _ _ _ hm
  obtain ⟨x1, A1, c1, B1, e1, rfl, i1, z1⟩ := open_form (hval 1 26 v1 rfl rfl) h1
  have k2 := h2
  have lt2 : ∀ x ∈ p2, x.block < W.heap.size := by obtain ⟨m, hm⟩ := k2; exact DataW.trod_lt m _ _ _ hm
  obtain ⟨x2, A2, c2, B2, e2, rfl, i2, z2⟩ := open_form (hval 2 26 v2 rfl rfl) h2
  clear hA0 hval0 hsz0 hsz
  refine (fnExactSameReference_walk x0 A0 c0 x1 A1 c1 B1 e1 x2 A2 c2 B2 e2 W hc0 hr0 z0 i1 z1 i2 z2).mono fun e W' ⟨he, bel⟩ => ?_
  subst he
  exact ⟨_, rfl, _, _, _, [], _, [], hW', trodAll_mk1 (shut_bool Try.underlying4 _), (trodAll_cons_mk (Below.trod laidOut (by kernel_rfl) (of_decide_eq_true (by kernel_rfl)) k0 bel lt0) (trodAll_cons_mk (Below.trod laidOut (by kernel_rfl) (of_decide_eq_true (by kernel_rfl)) k1 bel lt1) (trodAll_cons_mk (Below.trod laidOut (by kernel_rfl) (of_decide_eq_true (by kernel_rfl)) k2 bel lt2) trodAll_mk0))), rfl, bel.frame _, fun h => by cases h⟩
set_option maxRecDepth 100000 in
theorem closed : joinedFacts Try.prog 4 Try.f4 Rows.fnExactSameReferenceSpec Rows.fnExactSameReferenceRow = true := by
  unfold joinedFacts
  refine Bool.and_eq_true_iff.2 ⟨Bool.and_eq_true_iff.2 ⟨Bool.and_eq_true_iff.2 ⟨Bool.and_eq_true_iff.2 ⟨Bool.and_eq_true_iff.2 ⟨Bool.and_eq_true_iff.2 ⟨Bool.and_eq_true_iff.2 ⟨?_, mayEnter_yes⟩, (congrArg (fun b => Rows.fnExactSameReferenceRow.lifted == b) liftsFinal_no).trans (by kernel_rfl)⟩, (congrArg (fun b => b == some Rows.fnExactSameReferenceRow.make) make_cut).trans (by kernel_rfl)⟩, ?_⟩, ?_⟩, ?_⟩, ?_⟩
  all_goals kernel_rfl
theorem over : Rows.fnExactSameReferenceRow.holds Try.pinned (OpenSpec.ofChange Rows.fnExactSameReferenceSpec) :=
  OpenClaim.holds_of_wide 4 Try.f4 rfl rfl rfl rfl rfl rfl rfl ⟨rfl, rfl, rfl, rfl, rfl⟩ rfl rfl rfl rfl rfl (by kernel_rfl) Try.func4 closed
    (of_decide_eq_true (by kernel_rfl)) (by unfold Func.isWrapper; first | (rw [if_pos (by decide +kernel)]; kernel_rfl) | (rw [if_neg (by decide +kernel)]; exact ⟨rfl, rfl⟩))
    (fun os started H enc _ => lifted os started H enc)
end Go.Proofs.Ytnjfmpmoaaahlaa.fnExactSameReference
namespace Go.Proofs.Ytnjfmpmoaaahlaa
/-- The row. -/
theorem fnExactSameReference_holds : Rows.FnExactSameReferenceSaid := fnExactSameReference.over
#print axioms fnExactSameReference_holds
end Go.Proofs.Ytnjfmpmoaaahlaa
end
