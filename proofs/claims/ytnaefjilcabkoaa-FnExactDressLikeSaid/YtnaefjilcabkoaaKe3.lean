/- Words for the laws' proofs (part 3): contracts of functions, and plain lemmas. -/
import Derived.Deep.RegionHeld3
import Derived.Deep.Slices
import Derived.KernelRfl
import Derived.Lib.SmallJoins
import Derived.OpenShut
import Derived.ProofKit
import Derived.Shelf.Abstract
import Derived.Test.YtnaefjilcabkoaaProg
import Derived.Test.YtnaefjilcabkoaaKe1
import Derived.Test.YtnaefjilcabkoaaKe2
section
namespace Go.Proofs.Ytnaefjilcabkoaa
open Go.RowKit Go.Proofs.YtnaefjilcabkoaaW.PrintWords Go.Proofs.YtnaefjilcabkoaaW.PrintLast Go.Proofs.YtnaefjilcabkoaaW.PrintMore
set_option linter.unusedVariables false
set_option linter.unusedSimpArgs false
def LeftAt (w : World) (g : Nat) (L : Int) : Prop := w.heap[g]? = some (.cells #[.int .i64 L] 3 (0, 0))
def OkPost (n : Nat) (x : Fm) (L : Int) (g : Nat) (w0 : World) (e : Ending) (w' : World) : Prop :=
  ∃ b, e = .returned (.bool b) ∧ (b = true ↔ IsOk n x ∧ (x.size : Int) ≤ L) ∧ Below w0.heap.size w0 w' ∧ (b = true → LeftAt w' g (L - x.size))
theorem okPost_no {n : Nat} {x : Fm} {L : Int} {g : Nat} {w0 w' : World} (h : ¬ (IsOk n x ∧ (x.size : Int) ≤ L)) (hb : Below w0.heap.size w0 w') : OkPost n x L g w0 (.returned (.bool false)) w' :=
  ⟨false, rfl, ⟨(fun h => nomatch h), (fun h2 => absurd h2 h)⟩, hb, (fun h => nomatch h)⟩
theorem okPost_yes {n : Nat} {x : Fm} {L : Int} {g : Nat} {w0 w' : World} (h : IsOk n x ∧ (x.size : Int) ≤ L) (hb : Below w0.heap.size w0 w') (hl : LeftAt w' g (L - x.size)) : OkPost n x L g w0 (.returned (.bool true)) w' :=
  ⟨true, rfl, ⟨fun _ => h, fun _ => rfl⟩, hb, fun _ => hl⟩
set_option maxHeartbeats 8000000 in
set_option maxRecDepth 100000 in
theorem formOk_any : ∀ (n : Nat) (x : Fm) (A3 : Option Addr) (c3 : Nat) (A4 : Option Addr) (c4 : Nat) (d L : Int) (g : Nat) (w0 w : World), d + n = 41 → 1 ≤ d → 0 ≤ L → L ≤ 400 → x.tot ≤ 1048576 → FmIn w0 x A3 c3 A4 c4 → Below w0.heap.size w0 w → w0.heap.size ≤ g → LeftAt w g L →
    Calls Try.prog 119 #[.agg #[.int .i64 x.f0, .string x.f1, .int .i64 x.f2, .slice A3 x.f3.length c3, .slice A4 x.f4.length c4], .int .i64 d, .pointer (some ⟨g, 0, none⟩)] w (OkPost n x L g w0) := by
  intro n
  induction n with
  | zero =>
    intro x A3 c3 A4 c4 d L g w0 w hd hd1 hL0 hL1 ht hin hb hg hl
    have hgw : g < w.heap.size := by
      rcases Nat.lt_or_ge g w.heap.size with h | h
      · exact h
      · unfold LeftAt at hl; rw [Array.getElem?_eq_none h] at hl; cases hl
    have ka := blk_below hl (below_new w (.cells #[.int .i64 x.f0, .string x.f1, .int .i64 x.f2, .slice A3 x.f3.length c3, .slice A4 x.f4.length c4] 29))
    have hk0 := (blk_cell ka 0).trans (show _ = some (Value.int .i64 L) from rfl)
    have hf0 := blk_frozen ka 0
    have ks := blk_below (blk_set hl 0 (.int .i64 (L - 1))) (below_new (w.setCell ⟨g, 0, none⟩ (.int .i64 (L - 1))) (.cells #[.int .i64 x.f0, .string x.f1, .int .i64 x.f2, .slice A3 x.f3.length c3, .slice A4 x.f4.length c4] 29))
    have hk1 := (blk_cell ks 0).trans (show _ = some (Value.int .i64 (L - 1)) from by simp)
    have HB := Lib.hid (below_step (Below.setCell hb (p := ⟨g, 0, none⟩) hg (.int .i64 (L - 1))) (below_new (w.setCell ⟨g, 0, none⟩ (.int .i64 (L - 1))) (.cells #[.int .i64 x.f0, .string x.f1, .int .i64 x.f2, .slice A3 x.f3.length c3, .slice A4 x.f4.length c4] 29)))
    have h40 : d > 40 := by omega
    have t2 : decide (d > 40) = true := decide_eq_true (by omega)
    have t2' : decide (40 < d) = true := decide_eq_true (by omega)
    clear hin ht hb hl ka ks hd
    by_cases h0 : L - 1 < 0
    · have t1 : decide (L - 1 < 0) = true := decide_eq_true h0
      clear h0
      go_enter Try.func119, Try.ntmps119
      go_wp2_with fail


      go_ret
      exact okPost_no (fun h => h.1) HB.out
    · have t1 : decide (L - 1 < 0) = false := decide_eq_false h0
      clear h0
      go_enter Try.func119, Try.ntmps119
      go_wp2_with fail
      go_ret
      exact okPost_no (fun h => h.1) HB.out
  | succ n ih =>
    intro x A3 c3 A4 c4 d L g w0 w hd hd1 hL0 hL1 ht hin hb hg hl
    have hgw : g < w.heap.size := by
      rcases Nat.lt_or_ge g w.heap.size with h | h
      · exact h
      · unfold LeftAt at hl; rw [Array.getElem?_eq_none h] at hl; cases hl
    have ka := blk_below hl (below_new w (.cells #[.int .i64 x.f0, .string x.f1, .int .i64 x.f2, .slice A3 x.f3.length c3, .slice A4 x.f4.length c4] 29))
    have hk0 := (blk_cell ka 0).trans (show _ = some (Value.int .i64 L) from rfl)
    have hf0 := blk_frozen ka 0
    have ks := blk_below (blk_set hl 0 (.int .i64 (L - 1))) (below_new (w.setCell ⟨g, 0, none⟩ (.int .i64 (L - 1))) (.cells #[.int .i64 x.f0, .string x.f1, .int .i64 x.f2, .slice A3 x.f3.length c3, .slice A4 x.f4.length c4] 29))
    have hk1 := (blk_cell ks 0).trans (show _ = some (Value.int .i64 (L - 1)) from by simp)
    have KS : LeftAt ((w.setCell ⟨g, 0, none⟩ (.int .i64 (L - 1))).alloc (.cells #[.int .i64 x.f0, .string x.f1, .int .i64 x.f2, .slice A3 x.f3.length c3, .slice A4 x.f4.length c4] 29)) g (L - 1) := by simpa [LeftAt] using ks
    have hz0 := blk_new (w.setCell ⟨g, 0, none⟩ (.int .i64 (L - 1))) (.cells #[.int .i64 x.f0, .string x.f1, .int .i64 x.f2, .slice A3 x.f3.length c3, .slice A4 x.f4.length c4] 29)
    rw [show (w.setCell ⟨g, 0, none⟩ (.int .i64 (L - 1))).heap.size = w.heap.size from by simp] at hz0
    have HB0 := below_step (Below.setCell hb (p := ⟨g, 0, none⟩) hg (.int .i64 (L - 1))) (below_new (w.setCell ⟨g, 0, none⟩ (.int .i64 (L - 1))) (.cells #[.int .i64 x.f0, .string x.f1, .int .i64 x.f2, .slice A3 x.f3.length c3, .slice A4 x.f4.length c4] 29))
    have HB := Lib.hid HB0
    have hsz := Fm.size_eq x
    have hmax := hin.g4.2.1
    by_cases h0 : L - 1 < 0
    · have t1 : decide (L - 1 < 0) = true := decide_eq_true h0
      have H0 := Lib.hid (show ¬ ((x.size : Int) ≤ L) by omega)
      clear h0 hin ht hb hl ka ks hd hsz hz0 HB0 ih KS
      go_enter Try.func119, Try.ntmps119
      go_wp2_with fail
      go_ret
      exact okPost_no (fun h => by have h1 := H0.out; have h2 := h.2; omega) HB.out
    have t1 : decide (L - 1 < 0) = false := decide_eq_false h0
    have hd40 : d ≤ 40 := by omega
    have t2 : decide (d > 40) = false := decide_eq_false (by omega)
    have t2' : decide (40 < d) = false := decide_eq_false (by omega)
    have HD := Lib.hid hd
    have HI := Lib.hid (hin.below HB0)
    have HI0 := Lib.hid hin
    have HT := Lib.hid ht
    have IH := Lib.hid ih
    have HSZ := Lib.hid hsz
    have HKS := Lib.hid KS
    have HZ0 := Lib.hid hz0
    have HNm := Lib.hid (implName_any x.f1 ((w.setCell ⟨g, 0, none⟩ (.int .i64 (L - 1))).alloc (.cells #[.int .i64 x.f0, .string x.f1, .int .i64 x.f2, .slice A3 x.f3.length c3, .slice A4 x.f4.length c4] 29)) (name_size ht))
    have HWi := Lib.hid (within_any x.f2 0 999 ((w.setCell ⟨g, 0, none⟩ (.int .i64 (L - 1))).alloc (.cells #[.int .i64 x.f0, .string x.f1, .int .i64 x.f2, .slice A3 x.f3.length c3, .slice A4 x.f4.length c4] 29)))
    clear hd hin ht ih hsz KS ks hb hl ka HB0
    by_cases k1 : x.f0 = 1
    · have e1 : (x.f0 == 1) = true := by simpa using k1
      have K1 := Lib.hid k1
      clear k1 HWi hz0
      go_enter Try.func119, Try.ntmps119
      go_wp2_with fail
      refine HNm.out.mono ?_
      rintro e w1 ⟨rfl, hb1⟩
      have z1 := blk_below HZ0.out hb1
      have l1 := blk_below HKS.out hb1
      obtain ⟨p0, p1, p2, p3, p4⟩ := fm_cells z1
      have B1 := Lib.hid (below_step HB.out hb1)
      have HS := Lib.hid (scopesOk_any x.f3 A3 c3 w1 (Kd.C_below HI0.out.g3 B1.out) HI0.out.l3)
      clear hb1
      cases hq : nmB x.f1 with
      | false =>
        have HQ := Lib.hid hq
        clear hq
        go_wp2_with fail
        go_ret
        exact okPost_no (fun h => by have := nmB_t ((isOk1 K1.out).1 h.1).1; rw [HQ.out] at this; cases this) B1.out
      | true =>
        have HQ := Lib.hid hq
        clear hq
        by_cases h2 : x.f2 = 0
        · have t3 : (x.f2 == 0) = true := by simpa using h2
          have H2 := Lib.hid h2
          clear h2
          go_wp2_with fail
          refine HS.out.mono ?_
          rintro e w2 ⟨rfl, hb2⟩
          have z2 := blk_below z1 hb2
          have L2 := Lib.hid (blk_below l1 hb2)
          have B2 := Lib.hid (below_step B1.out hb2)
          clear hb2 z1 l1 p0 p1 p2 p3 p4
          obtain ⟨p0, p1, p2, p3, p4⟩ := fm_cells z2
          cases hq : pB (ScOk x.f3) with
          | false =>
            have HQ2 := Lib.hid hq
            clear hq
            go_wp2_with fail
            go_ret
            exact okPost_no (fun h => by have := pB_yes ((isOk1 K1.out).1 h.1).2.2.1; rw [HQ2.out] at this; cases this) B2.out
          | true =>
            have HQ2 := Lib.hid hq
            clear hq
            by_cases h3 : x.f4.length = 0
            · have t4 : ((x.f4.length : Int) == 0) = true := by rw [beq_iff_eq]; omega
              have H3 := Lib.hid h3
              have H0 := Lib.hid h0
              clear h3 h0
              go_wp2_with fail
              go_ret
              have hs1 : x.size = 1 := by have h1 := HSZ.out; rw [List.length_eq_zero_iff.1 H3.out] at h1; exact h1
              have hc1 : (x.size : Int) = 1 := by omega
              exact okPost_yes ⟨(isOk1 K1.out).2 ⟨(nmB_iff _).1 HQ.out, H2.out, pB_iff.1 HQ2.out, H3.out⟩, by have := H0.out; omega⟩ B2.out (by rw [hc1]; exact L2.out)
            · have t4 : ((x.f4.length : Int) == 0) = false := by rw [beq_eq_false_iff_ne]; omega
              have H3 := Lib.hid h3
              clear h3
              go_wp2_with fail
              go_ret
              exact okPost_no (fun h => H3.out ((isOk1 K1.out).1 h.1).2.2.2) B2.out
        · have t3 : (x.f2 == 0) = false := by simpa using h2
          have H2 := Lib.hid h2
          clear h2
          go_wp2_with fail
          go_ret
          exact okPost_no (fun h => H2.out ((isOk1 K1.out).1 h.1).2.1) B1.out
    have e1 : (x.f0 == 1) = false := by simpa using k1
    have K1 := Lib.hid k1
    clear k1 HNm
    obtain ⟨p0, p1, p2, p3, p4⟩ := fm_cells hz0
    by_cases k2 : x.f0 = 2
    · have e2 : (x.f0 == 2) = true := by simpa using k2
      have K2 := Lib.hid k2
      clear k2 hz0
      go_enter Try.func119, Try.ntmps119
      by_cases h1 : x.f1.toList = []
      · have t3 : (x.f1.toList == []) = true := by rw [h1]; rfl
        have H1 := Lib.hid h1
        clear h1
        go_wp2_with fail
        refine HWi.out.mono ?_
        rintro e w1 ⟨rfl, hb1⟩
        have z1 := blk_below HZ0.out hb1
        have L1 := Lib.hid (blk_below HKS.out hb1)
        have B1 := Lib.hid (below_step HB.out hb1)
        clear hb1 p0 p1 p2 p3 p4
        obtain ⟨p0, p1, p2, p3, p4⟩ := fm_cells z1
        by_cases h2 : 0 ≤ x.f2 ∧ x.f2 ≤ 999
        · rw [decide_eq_true h2]
          have H2 := Lib.hid h2
          clear h2
          by_cases h4 : x.f3.length = 0
          · have t4 : ((x.f3.length : Int) == 0) = true := by rw [beq_iff_eq]; omega
            have H4 := Lib.hid h4
            clear h4
            by_cases h5 : x.f4.length = 0
            · have t5 : ((x.f4.length : Int) == 0) = true := by rw [beq_iff_eq]; omega
              have H5 := Lib.hid h5
              have H0 := Lib.hid h0
              clear h5 h0
              go_wp2_with fail
              go_ret
              have hs1 : x.size = 1 := by have h1 := HSZ.out; rw [List.length_eq_zero_iff.1 H5.out] at h1; exact h1
              have hc1 : (x.size : Int) = 1 := by omega
              exact okPost_yes ⟨(isOk2 K2.out).2 ⟨H1.out, H2.out.1, H2.out.2, H4.out, H5.out⟩, by have := H0.out; omega⟩ B1.out (by rw [hc1]; exact L1.out)
            · have t5 : ((x.f4.length : Int) == 0) = false := by rw [beq_eq_false_iff_ne]; omega
              have H5 := Lib.hid h5
              clear h5
              go_wp2_with fail
              go_ret
              exact okPost_no (fun h => H5.out ((isOk2 K2.out).1 h.1).2.2.2.2) B1.out
          · have t4 : ((x.f3.length : Int) == 0) = false := by rw [beq_eq_false_iff_ne]; omega
            have H4 := Lib.hid h4
            clear h4
            go_wp2_with fail
            go_ret
            exact okPost_no (fun h => H4.out ((isOk2 K2.out).1 h.1).2.2.2.1) B1.out
        · rw [decide_eq_false h2]
          have H2 := Lib.hid h2
          clear h2
          go_wp2_with fail
          go_ret
          exact okPost_no (fun h => H2.out ⟨((isOk2 K2.out).1 h.1).2.1, ((isOk2 K2.out).1 h.1).2.2.1⟩) B1.out
      · have t3 : (x.f1.toList == []) = false := by rw [beq_eq_false_iff_ne]; exact h1
        have H1 := Lib.hid h1
        clear h1
        go_wp2_with fail
        go_ret
        exact okPost_no (fun h => H1.out ((isOk2 K2.out).1 h.1).1) HB.out
    have e2 : (x.f0 == 2) = false := by simpa using k2
    have K2 := Lib.hid k2
    clear k2 HWi
    by_cases k3 : x.f0 = 3
    · have e3 : (x.f0 == 3) = true := by simpa using k3
      have K3 := Lib.hid k3
      clear k3
      go_enter Try.func119, Try.ntmps119
      by_cases h1 : x.f1.toList = []
      · have t3 : (x.f1.toList != []) = false := by rw [h1]; rfl
        have t3' : (x.f1.toList == []) = true := by rw [h1]; rfl
        have H1 := Lib.hid h1
        clear h1
        by_cases h2 : x.f2 = 0
        · have t4 : (x.f2 != 0) = false := by simpa using h2
          have H2 := Lib.hid h2
          clear h2
          by_cases h4 : x.f3.length = 0
          · have t5 : decide ((x.f3.length : Int) > 0) = false := decide_eq_false (by omega)
            have t5' : decide ((0 : Int) < (x.f3.length : Int)) = false := decide_eq_false (by omega)
            have t5'' : decide (0 < x.f3.length) = false := decide_eq_false (by omega)
            have H4 := Lib.hid h4
            clear h4
            go_wp2_with fail
            go_loopg [8, 86] x.f4.length (fun kq v8 v86 w' => ∃ i : Nat, i ≤ x.f4.length ∧ x.f4.length - i ≤ kq ∧ v86 = .int .i64 i ∧ Aside0 (∀ j (h : j < x.f4.length), j < i → IsOk n x.f4[j]) ∧ Aside0 (Below w0.heap.size w0 w') ∧ Aside0 (LeftAt w' g (L - 1 - sizes (x.f4.take i))) ∧ Aside0 (0 ≤ L - 1 - (sizes (x.f4.take i) : Int)))
            case atStart => exact ⟨0, Nat.zero_le _, by omega, rfl, ⟨fun j _ h => absurd h (by omega)⟩, ⟨HB.out⟩, ⟨by simpa [sizes] using HKS.out⟩, ⟨by simp [sizes]; omega⟩⟩
            case round =>
              obtain ⟨i, hi, hg2, rfl, HN, HW, HL, HP⟩ := hrel
              by_cases hlt : i < x.f4.length
              · obtain ⟨ad, G3, m3, G4, m4, e, g0, g1, g2, g3, g4, hk⟩ := kid_at HI0.out.g4 i hlt
                subst e
                have q0 := ck0 HW.out g0
                have q1 := ck0 HW.out g1
                have q2 := ck0 HW.out g2
                have q3 := ck0 HW.out g3
                have q4 := ck0 HW.out g4
                have hst := sizes_take x.f4 i hlt
                have hle := sizes_take_le x.f4 (i + 1)
                have hP := HP.out
                have hfr : w0.heap.size ≤ wr.heap.size := HW.out.size
                have HC := Lib.hid (IH.out x.f4[i] G3 m3 G4 m4 (d + 1) (L - 1 - (sizes (x.f4.take i) : Int)) g w0 (wr.alloc (.cells #[.int .i64 x.f4[i].f0, .string x.f4[i].f1, .int .i64 x.f4[i].f2, .slice G3 x.f4[i].f3.length m3, .slice G4 x.f4[i].f4.length m4] 29)) (by have := HD.out; omega) (by omega) hP (by omega) (kid_tot HT.out (List.getElem_mem hlt)) hk (below_step HW.out (below_new _ _)) hg (blk_below HL.out (below_new _ _)))
                have HST := Lib.hid hst
                have HLE := Lib.hid hle
                clear hk g0 g1 g2 g3 g4 hst hle hP hfr
                go_wp2_with fail
                refine HC.out.mono ?_
                intro e w1 hpost
                obtain ⟨b, rfl, hiff, hb1, hl1⟩ := hpost
                have HF := Lib.hid hiff
                have HB1 := Lib.hid hb1
                have HL1 := Lib.hid hl1
                clear hiff hb1 hl1
                cases b with
                | true =>
                  go_wp2_with fail
                  go_roundg (x.f4.length - (i + 1))
                  case measure => omega
                  case rel =>
                    have h1 := HST.out
                    have h2 := HF.out.1 (by simp)
                    have h3 := HL1.out (by simp)
                    refine ⟨i + 1, by omega, Nat.le_refl _, by go_num, ⟨fun j hj hji => ?_⟩, ⟨HB1.out⟩, ⟨?_⟩, ⟨by rw [h1]; omega⟩⟩
                    · rcases Nat.lt_or_ge j i with h | h
                      · exact HN.out j hj h
                      · obtain rfl : j = i := by omega
                        exact h2.1
                    · rw [h1, show L - 1 - ((sizes (x.f4.take i) + x.f4[i].size : Nat) : Int) = L - 1 - (sizes (x.f4.take i) : Int) - (x.f4[i].size : Int) from by omega]
                      exact h3
                | false =>
                  go_wp2_with fail
                  go_ret
                  refine okPost_no (fun h => ?_) HB1.out
                  have h1 := HF.out.2 ⟨((isOk3 K1.out K2.out).1 h.1).2.2.2.2 _ (List.getElem_mem hlt), by have h1 := HST.out; have h2 := HLE.out; have h3 := HSZ.out; have h4 := h.2; omega⟩
                  cases h1
              · obtain rfl : i = x.f4.length := by omega
                go_wp2_with fail
                go_ret
                have hsum : (x.size : Int) = 1 + (sizes x.f4 : Int) := by have := HSZ.out; omega
                have hP := HP.out
                have hL := HL.out
                rw [List.take_length] at hP hL
                refine okPost_yes ⟨(isOk3 K1.out K2.out).2 ⟨K3.out, H1.out, H2.out, H4.out, fun k hk => ?_⟩, by omega⟩ HW.out (by rw [show L - (x.size : Int) = L - 1 - (sizes x.f4 : Int) from by omega]; exact hL)
                obtain ⟨j, hj, rfl⟩ := List.getElem_of_mem hk
                exact HN.out j hj hj
          · have t5 : decide ((x.f3.length : Int) > 0) = true := decide_eq_true (by omega)
            have t5' : decide ((0 : Int) < (x.f3.length : Int)) = true := decide_eq_true (by omega)
            have t5'' : decide (0 < x.f3.length) = true := decide_eq_true (by omega)
            have H4 := Lib.hid h4
            clear h4
            go_wp2_with fail
            go_ret
            exact okPost_no (fun h => H4.out ((isOk3 K1.out K2.out).1 h.1).2.2.2.1) HB.out
        · have t4 : (x.f2 != 0) = true := by simpa using h2
          have H2 := Lib.hid h2
          clear h2
          go_wp2_with fail
          go_ret
          exact okPost_no (fun h => H2.out ((isOk3 K1.out K2.out).1 h.1).2.2.1) HB.out
      · have t3 : (x.f1.toList != []) = true := by rw [bne_iff_ne]; exact h1
        have t3' : (x.f1.toList == []) = false := by rw [beq_eq_false_iff_ne]; exact h1
        have H1 := Lib.hid h1
        clear h1
        go_wp2_with fail
        go_ret
        exact okPost_no (fun h => H1.out ((isOk3 K1.out K2.out).1 h.1).2.1) HB.out
    have e3 : (x.f0 == 3) = false := by simpa using k3
    have K3 := Lib.hid k3
    clear k3
    go_enter Try.func119, Try.ntmps119
    go_wp2_with fail
    go_ret
    exact okPost_no (fun h => K3.out ((isOk3 K1.out K2.out).1 h.1).1) HB.out
theorem implValid_any (x : Fm) (A3 : Option Addr) (c3 : Nat) (A4 : Option Addr) (c4 : Nat) (w : World) (hin : FmIn w x A3 c3 A4 c4) (ht : x.tot ≤ 1048576) :
    Calls Try.prog 75 #[.agg #[.int .i64 x.f0, .string x.f1, .int .i64 x.f2, .slice A3 x.f3.length c3, .slice A4 x.f4.length c4]] w (Ret w (.bool (pB (FmOk x)))) := by
  have hb := below_step (below_new w (.cells #[.int .i64 x.f0, .string x.f1, .int .i64 x.f2, .slice A3 x.f3.length c3, .slice A4 x.f4.length c4] 29)) (below_new _ (.cells #[.int .i64 400] 3))
  have hl := blk_new (w.alloc (.cells #[.int .i64 x.f0, .string x.f1, .int .i64 x.f2, .slice A3 x.f3.length c3, .slice A4 x.f4.length c4] 29)) (.cells #[.int .i64 400] 3)
  rw [show (w.alloc (.cells #[.int .i64 x.f0, .string x.f1, .int .i64 x.f2, .slice A3 x.f3.length c3, .slice A4 x.f4.length c4] 29)).heap.size = w.heap.size + 1 from by simp] at hl
  have HC := Lib.hid (formOk_any 40 x A3 c3 A4 c4 1 400 (w.heap.size + 1) w _ (by omega) (by omega) (by omega) (by omega) ht hin hb (by omega) hl)
  clear hin ht hb hl
  go_enter Try.func75, Try.ntmps75
  go_wp2_with fail
  refine HC.out.mono ?_
  intro e w1 hpost
  obtain ⟨b, rfl, hiff, hb1, hl1⟩ := hpost
  have hv : b = pB (FmOk x) := pB_of ⟨fun h => ⟨(hiff.1 h).1, by have := (hiff.1 h).2; omega⟩, fun h => hiff.2 ⟨h.1, by have := h.2; omega⟩⟩
  have HV := Lib.hid hv
  have HB1 := Lib.hid hb1
  clear hiff hb1 hl1 hv HC
  go_wp2_with fail
  go_ret
  exact ⟨ret_b HV.out, HB1.out⟩
end Go.Proofs.Ytnaefjilcabkoaa
end
section
namespace Go.Proofs.Ytnaefjilcabkoaa
open Go.RowKit Go.Proofs.YtnaefjilcabkoaaW.PrintWords Go.Proofs.YtnaefjilcabkoaaW.PrintLast Go.Proofs.YtnaefjilcabkoaaW.PrintMore
set_option linter.unusedVariables false
set_option linter.unusedSimpArgs false

set_option maxHeartbeats 1000000 in
theorem l1Ints_any (xs ys : List Int) (A B : Option Addr) (c d : Nat) (w : World) (hr : kI.C w A xs.length xs) (hc : xs.length ≤ c) (hr2 : kI.C w B ys.length ys) (hc2 : ys.length ≤ d) :
    Calls Try.prog 89 #[.slice A xs.length c, .slice B ys.length d] w (Ret w (.bool (decide (xs = ys)))) := by
  have hmax := hr.2.1
  by_cases hl : xs.length = ys.length
  · have hl1 : ((xs.length : Int) == (ys.length : Int)) = true := by simp [hl]
    have hl2 : ((xs.length : Int) != (ys.length : Int)) = false := by simp [hl]
    have hl3 : (xs.length == ys.length) = true := by simp [hl]
    have hl4 : (xs.length != ys.length) = false := by simp [hl]
    have HL := Lib.hid hl
    clear hl
    go_enter Try.func89, Try.ntmps89
    go_wp2_with fail
    go_loopg [5] xs.length (fun kq v5 w' => ∃ i : Nat, i ≤ xs.length ∧ xs.length - i ≤ kq ∧ v5 = .int .i64 i ∧ Aside0 (∀ j (h : j < xs.length) (h2 : j < ys.length), j < i → xs[j] = ys[j]) ∧ Aside0 (Below w.heap.size w w'))
    case atStart => exact ⟨0, Nat.zero_le _, by omega, rfl, ⟨fun j _ _ h => absurd h (by omega)⟩, ⟨Below.refl _ _⟩⟩
    case round =>
      obtain ⟨i, hi, hg, rfl, HN, HW⟩ := hrel
      by_cases hlt : i < xs.length
      · have hlt2 : i < ys.length := by have := HL.out; omega
        obtain ⟨ad, e, hcell⟩ := int_at (Kd.C_below hr HW.out) i hlt
        subst e
        obtain ⟨ad2, e2, hcell2⟩ := int_at (Kd.C_below hr2 HW.out) i hlt2
        subst e2
        by_cases he : xs[i] = ys[i]
        · have hb1 : (xs[i] == ys[i]) = true := by simpa using he
          have hb2 : (xs[i] != ys[i]) = false := by simpa using he
          have HE := Lib.hid he
          clear he
          go_wp2_with fail
          go_quiet (fail)
          go_wp2_with fail
          go_roundg (xs.length - (i + 1))
          case measure => omega
          case rel =>
            refine ⟨i + 1, by omega, Nat.le_refl _, by go_num, ⟨fun j hj hj2 hji => ?_⟩, ⟨pw_below_drewN HW.out _⟩⟩
            rcases Nat.lt_or_ge j i with h | h
            · exact HN.out j hj hj2 h
            · obtain rfl : j = i := by omega
              exact HE.out
        · have hb1 : (xs[i] == ys[i]) = false := by simpa using he
          have hb2 : (xs[i] != ys[i]) = true := by simpa using he
          have HE := Lib.hid he
          clear he
          go_wp2_with fail
          go_quiet (fail)
          go_wp2_with fail
          go_ret
          refine ⟨ret_b (decide_eq_false (fun h => HE.out ?_)).symm, pw_below_drewN HW.out _⟩
          subst h
          rfl
      · obtain rfl : i = xs.length := by omega
        go_wp2_with fail
        go_ret
        refine ⟨ret_b (decide_eq_true (List.ext_getElem HL.out (fun j hj hj2 => HN.out j hj hj2 hj))).symm, HW.out⟩
  · have hl1 : ((xs.length : Int) == (ys.length : Int)) = false := by simp; omega
    have hl2 : ((xs.length : Int) != (ys.length : Int)) = true := by simp; omega
    have hl3 : (xs.length == ys.length) = false := by simp [hl]
    have hl4 : (xs.length != ys.length) = true := by simp [hl]
    have HL := Lib.hid hl
    clear hl
    go_enter Try.func89, Try.ntmps89
    go_wp2_with fail
    go_ret
    exact ⟨ret_b (decide_eq_false (fun h => HL.out (by rw [h]))).symm, Below.refl _ _⟩
set_option maxHeartbeats 1000000 in
theorem equalI_any (xs ys : List Int) (A B : Option Addr) (c d : Nat) (w : World) (hr : kI.C w A xs.length xs) (hc : xs.length ≤ c) (hr2 : kI.C w B ys.length ys) (hc2 : ys.length ≤ d) :
    Calls Try.prog 96 #[.slice A xs.length c, .slice B ys.length d] w (Ret w (.bool (decide (xs = ys)))) := by
  have hmax := hr.2.1
  by_cases hl : xs.length = ys.length
  · have hl1 : ((xs.length : Int) == (ys.length : Int)) = true := by simp [hl]
    have hl2 : ((xs.length : Int) != (ys.length : Int)) = false := by simp [hl]
    have hl3 : (xs.length == ys.length) = true := by simp [hl]
    have hl4 : (xs.length != ys.length) = false := by simp [hl]
    have HL := Lib.hid hl
    clear hl
    go_enter Try.func96, Try.ntmps96
    go_wp2_with fail
    go_loopg [5, 13] xs.length (fun kq v5 v13 w' => ∃ i : Nat, i ≤ xs.length ∧ xs.length - i ≤ kq ∧ v13 = .int .i64 i ∧ Aside0 (∀ j (h : j < xs.length) (h2 : j < ys.length), j < i → xs[j] = ys[j]) ∧ Aside0 (Below w.heap.size w w'))
    case atStart => exact ⟨0, Nat.zero_le _, by omega, rfl, ⟨fun j _ _ h => absurd h (by omega)⟩, ⟨Below.refl _ _⟩⟩
    case round =>
      obtain ⟨i, hi, hg, rfl, HN, HW⟩ := hrel
      by_cases hlt : i < xs.length
      · have hlt2 : i < ys.length := by have := HL.out; omega
        obtain ⟨ad, e, hcell⟩ := int_at (Kd.C_below hr HW.out) i hlt
        subst e
        obtain ⟨ad2, e2, hcell2⟩ := int_at (Kd.C_below hr2 HW.out) i hlt2
        subst e2
        by_cases he : xs[i] = ys[i]
        · have hb1 : (xs[i] == ys[i]) = true := by simpa using he
          have hb2 : (xs[i] != ys[i]) = false := by simpa using he
          have HE := Lib.hid he
          clear he
          go_wp2_with fail
          go_quiet (fail)
          go_wp2_with fail
          go_roundg (xs.length - (i + 1))
          case measure => omega
          case rel =>
            refine ⟨i + 1, by omega, Nat.le_refl _, by go_num, ⟨fun j hj hj2 hji => ?_⟩, ⟨pw_below_drewN HW.out _⟩⟩
            rcases Nat.lt_or_ge j i with h | h
            · exact HN.out j hj hj2 h
            · obtain rfl : j = i := by omega
              exact HE.out
        · have hb1 : (xs[i] == ys[i]) = false := by simpa using he
          have hb2 : (xs[i] != ys[i]) = true := by simpa using he
          have HE := Lib.hid he
          clear he
          go_wp2_with fail
          go_quiet (fail)
          go_wp2_with fail
          go_ret
          refine ⟨ret_b (decide_eq_false (fun h => HE.out ?_)).symm, pw_below_drewN HW.out _⟩
          subst h
          rfl
      · obtain rfl : i = xs.length := by omega
        go_wp2_with fail
        go_ret
        refine ⟨ret_b (decide_eq_true (List.ext_getElem HL.out (fun j hj hj2 => HN.out j hj hj2 hj))).symm, HW.out⟩
  · have hl1 : ((xs.length : Int) == (ys.length : Int)) = false := by simp; omega
    have hl2 : ((xs.length : Int) != (ys.length : Int)) = true := by simp; omega
    have hl3 : (xs.length == ys.length) = false := by simp [hl]
    have hl4 : (xs.length != ys.length) = true := by simp [hl]
    have HL := Lib.hid hl
    clear hl
    go_enter Try.func96, Try.ntmps96
    go_wp2_with fail
    go_ret
    exact ⟨ret_b (decide_eq_false (fun h => HL.out (by rw [h]))).symm, Below.refl _ _⟩
def SpecSame (x : Fm) : Prop := ∀ (y : Fm) (A3 : Option Addr) (c3 : Nat) (A4 : Option Addr) (c4 : Nat) (B3 : Option Addr) (d3 : Nat) (B4 : Option Addr) (d4 : Nat) (w : World), FmIn w x A3 c3 A4 c4 → FmIn w y B3 d3 B4 d4 →
    Calls Try.prog 100 #[.agg #[.int .i64 x.f0, .string x.f1, .int .i64 x.f2, .slice A3 x.f3.length c3, .slice A4 x.f4.length c4], .agg #[.int .i64 y.f0, .string y.f1, .int .i64 y.f2, .slice B3 y.f3.length d3, .slice B4 y.f4.length d4]] w (Ret w (.bool (eqB x y)))
set_option maxHeartbeats 4000000 in
set_option maxRecDepth 100000 in
theorem specSame_any (x : Fm) : SpecSame x := by
  induction x using Fm.ind with
  | h x ih =>
    intro y A3 c3 A4 c4 B3 d3 B4 d4 w hx hy
    have HX := Lib.hid (fun (h1 : x.f0 = y.f0) (h2 : x.f1 = y.f1) (h3 : x.f2 = y.f2) (h4 : x.f3 = y.f3) (h5 : x.f4 = y.f4) => Fm.ext' h1 h2 h3 h4 h5)
    have hb1 := below_new w (.cells #[.int .i64 x.f0, .string x.f1, .int .i64 x.f2, .slice A3 x.f3.length c3, .slice A4 x.f4.length c4] 29)
    have hb2 := below_step hb1 (below_new _ (.cells #[.int .i64 y.f0, .string y.f1, .int .i64 y.f2, .slice B3 y.f3.length d3, .slice B4 y.f4.length d4] 29))
    have HB := Lib.hid hb2
    by_cases e1 : x.f0 = y.f0
    · have t1 : (x.f0 == y.f0) = true := by simpa using e1
      have t1' : (x.f0 != y.f0) = false := by simpa using e1
      have E1 := Lib.hid e1
      clear e1
      by_cases e2 : x.f1 = y.f1
      · have t2 : (x.f1.toList == y.f1.toList) = true := by rw [e2]; simp
        have t2' : (x.f1.toList != y.f1.toList) = false := by rw [e2]; simp
        have E2 := Lib.hid e2
        clear e2
        by_cases e3 : x.f2 = y.f2
        · have t3 : (x.f2 == y.f2) = true := by simpa using e3
          have t3' : (x.f2 != y.f2) = false := by simpa using e3
          have E3 := Lib.hid e3
          clear e3
          have HC := Lib.hid (l1Ints_any x.f3 y.f3 A3 B3 c3 d3 _ (Kd.C_below hx.g3 hb2) hx.l3 (Kd.C_below hy.g3 hb2) hy.l3)
          have HK := Lib.hid (fun (k : Fm) (h : k ∈ x.f4) => ih k h)
          have HXY := Lib.hid (And.intro hx hy)
          have hmax := hx.g4.2.1
          clear ih hx hy hb1 hb2
          go_enter Try.func100, Try.ntmps100
          go_wp2_with fail
          refine HC.out.mono ?_
          rintro e w1 ⟨rfl, k1⟩
          have hz := blk_below (blk_below (blk_new w (.cells #[.int .i64 x.f0, .string x.f1, .int .i64 x.f2, .slice A3 x.f3.length c3, .slice A4 x.f4.length c4] 29)) (below_new _ _)) k1
          have hz2 := blk_below (blk_new (w.alloc (.cells #[.int .i64 x.f0, .string x.f1, .int .i64 x.f2, .slice A3 x.f3.length c3, .slice A4 x.f4.length c4] 29)) (.cells #[.int .i64 y.f0, .string y.f1, .int .i64 y.f2, .slice B3 y.f3.length d3, .slice B4 y.f4.length d4] 29)) k1
          rw [show (w.alloc (.cells #[.int .i64 x.f0, .string x.f1, .int .i64 x.f2, .slice A3 x.f3.length c3, .slice A4 x.f4.length c4] 29)).heap.size = w.heap.size + 1 from by simp] at hz2
          obtain ⟨_, _, _, _, q4⟩ := fm_cells hz
          obtain ⟨_, _, _, _, r4⟩ := fm_cells hz2
          have K1 := Lib.hid (below_step HB.out k1)
          clear hz hz2 k1
          by_cases e4 : x.f3 = y.f3
          · have E4 := Lib.hid e4
            rw [decide_eq_true e4]
            clear e4
            by_cases hl : x.f4.length = y.f4.length
            · have hl1 : ((x.f4.length : Int) == (y.f4.length : Int)) = true := by simp [hl]
              have hl2 : ((x.f4.length : Int) != (y.f4.length : Int)) = false := by simp [hl]
              have HL := Lib.hid hl
              have C1 := Lib.hid (Kd.C_below HXY.out.1.g4 K1.out)
              have C2 := Lib.hid (Kd.C_below HXY.out.2.g4 K1.out)
              clear hl
              go_wp2_with fail
              go_loopg [5] x.f4.length (fun kq v5 w' => ∃ i : Nat, i ≤ x.f4.length ∧ x.f4.length - i ≤ kq ∧ v5 = .int .i64 i ∧ Aside0 (∀ j (h : j < x.f4.length) (h2 : j < y.f4.length), j < i → x.f4[j] = y.f4[j]) ∧ Aside0 (Below w1.heap.size w1 w'))
              case atStart => exact ⟨0, Nat.zero_le _, by omega, rfl, ⟨fun j _ _ h => absurd h (by omega)⟩, ⟨Below.refl _ _⟩⟩
              case round =>
                obtain ⟨i, hi, hg, rfl, HN, HW⟩ := hrel
                have q6 := ck0 HW.out q4
                by_cases hlt : i < x.f4.length
                · have hlt2 : i < y.f4.length := by have := HL.out; omega
                  obtain ⟨ad, G3, m3, G4, m4, e, g0, g1, g2, g3, g4, hk⟩ := kid_at (Kd.C_below C1.out HW.out) i hlt
                  subst e
                  obtain ⟨ad2, E3, f3, E4, f4, e2, h0, h1, h2, h3, h4, hk2⟩ := kid_at (Kd.C_below C2.out HW.out) i hlt2
                  subst e2
                  have HC := Lib.hid (fun W (hb : Below wr.heap.size wr W) => HK.out x.f4[i] (List.getElem_mem hlt) y.f4[i] G3 m3 G4 m4 E3 f3 E4 f4 W (hk.below hb) (hk2.below hb))
                  clear hk hk2
                  have q5 := ck0 HW.out q4
                  have r5 := ck0 HW.out r4
                  have p1 : (0 : Int) ≤ (i : Int) := by omega
                  have p2 : (i : Int) < (x.f4.length : Int) := by omega
                  have p3 : (i : Int) < (y.f4.length : Int) := by omega
                  go_wp2_with fail
                  go_region_held3 (fun w' => w'.cell? ⟨w.heap.size, 4, none⟩ = some (.slice (some ad) x.f4.length c4) ∧ w'.cell? ⟨w.heap.size + 1, 4, none⟩ = some (.slice (some ad2) y.f4.length d4) ∧ w'.cell? (ad.add (i * 5)) = some (.int .i64 x.f4[i].f0) ∧ w'.cell? ⟨(ad.add (i * 5)).block, (ad.add (i * 5)).off + 1, none⟩ = some (.string x.f4[i].f1) ∧ w'.cell? ⟨(ad.add (i * 5)).block, (ad.add (i * 5)).off + 2, none⟩ = some (.int .i64 x.f4[i].f2) ∧ w'.cell? ⟨(ad.add (i * 5)).block, (ad.add (i * 5)).off + 3, none⟩ = some (.slice G3 x.f4[i].f3.length m3) ∧ w'.cell? ⟨(ad.add (i * 5)).block, (ad.add (i * 5)).off + 4, none⟩ = some (.slice G4 x.f4[i].f4.length m4) ∧ w'.cell? (ad2.add (i * 5)) = some (.int .i64 y.f4[i].f0) ∧ w'.cell? ⟨(ad2.add (i * 5)).block, (ad2.add (i * 5)).off + 1, none⟩ = some (.string y.f4[i].f1) ∧ w'.cell? ⟨(ad2.add (i * 5)).block, (ad2.add (i * 5)).off + 2, none⟩ = some (.int .i64 y.f4[i].f2) ∧ w'.cell? ⟨(ad2.add (i * 5)).block, (ad2.add (i * 5)).off + 3, none⟩ = some (.slice E3 y.f4[i].f3.length f3) ∧ w'.cell? ⟨(ad2.add (i * 5)).block, (ad2.add (i * 5)).off + 4, none⟩ = some (.slice E4 y.f4[i].f4.length f4)) (first | go_keep | exact ⟨ck hb1 q5, ck hb1 r5, ck hb1 g0, ck hb1 g1, ck hb1 g2, ck hb1 g3, ck hb1 g4, ck hb1 h0, ck hb1 h1, ck hb1 h2, ck hb1 h3, ck hb1 h4⟩) ((go_at_call 100; refine (HC.out _ (Below.refl _ _).drew).mono ?_; rintro e w2 ⟨rfl, hb1⟩))
                  cases he : eqB x.f4[i] y.f4[i] with
                  | true =>
                    have HE := Lib.hid (eqB_iff.1 he)
                    clear he
                    go_wp2_with fail
                    go_roundg (x.f4.length - (i + 1))
                    case measure => omega
                    case rel =>
                      refine ⟨i + 1, by omega, Nat.le_refl _, by go_num, ⟨fun j hj hj2 hji => ?_⟩, ⟨below_step HW.out (below_step (Below.refl _ _).drew hb1)⟩⟩
                      rcases Nat.lt_or_ge j i with h | h
                      · exact HN.out j hj hj2 h
                      · obtain rfl : j = i := by omega
                        exact HE.out
                  | false =>
                    have HE := Lib.hid he
                    clear he
                    go_wp2_with fail
                    go_ret
                    refine ⟨ret_b (eqB_no (fun h => ?_)), below_step K1.out (below_step HW.out (below_step (Below.refl _ _).drew hb1))⟩
                    have := HE.out
                    subst h
                    rw [eqB_self] at this
                    cases this
                · obtain rfl : i = x.f4.length := by omega
                  have q5 := ck0 HW.out q4
                  go_wp2_with fail
                  go_ret
                  exact ⟨ret_b (eqB_yes (HX.out E1.out E2.out E3.out E4.out (List.ext_getElem HL.out (fun j hj hj2 => HN.out j hj hj2 hj)))), below_step K1.out HW.out⟩
            · have hl1 : ((x.f4.length : Int) == (y.f4.length : Int)) = false := by rw [beq_eq_false_iff_ne]; omega
              have hl2 : ((x.f4.length : Int) != (y.f4.length : Int)) = true := by simp; omega
              have HL := Lib.hid hl
              clear hl
              go_wp2_with fail
              go_ret
              exact ⟨ret_b (eqB_no (fun h => HL.out (by rw [h]))), K1.out⟩
          · have E4 := Lib.hid e4
            rw [decide_eq_false e4]
            clear e4
            go_wp2_with fail
            go_ret
            exact ⟨ret_b (eqB_no (fun h => E4.out (by rw [h]))), K1.out⟩
        · have t3 : (x.f2 == y.f2) = false := by simpa using e3
          have t3' : (x.f2 != y.f2) = true := by simpa using e3
          have E3 := Lib.hid e3
          clear e3 ih hx hy hb1 hb2
          go_enter Try.func100, Try.ntmps100
          go_wp2_with fail
          go_ret
          exact ⟨ret_b (eqB_no (fun h => E3.out (by rw [h]))), HB.out⟩
      · have t2 : (x.f1.toList == y.f1.toList) = false := by rw [beq_eq_false_iff_ne]; exact fun h => e2 (toList_inj h)
        have t2' : (x.f1.toList != y.f1.toList) = true := by rw [bne_iff_ne]; exact fun h => e2 (toList_inj h)
        have E2 := Lib.hid e2
        clear e2 ih hx hy hb1 hb2
        go_enter Try.func100, Try.ntmps100
        go_wp2_with fail
        go_ret
        exact ⟨ret_b (eqB_no (fun h => E2.out (by rw [h]))), HB.out⟩
    · have t1 : (x.f0 == y.f0) = false := by simpa using e1
      have t1' : (x.f0 != y.f0) = true := by simpa using e1
      have E1 := Lib.hid e1
      clear e1 ih hx hy hb1 hb2
      go_enter Try.func100, Try.ntmps100
      go_wp2_with fail
      go_ret
      exact ⟨ret_b (eqB_no (fun h => E1.out (by rw [h]))), HB.out⟩
def ImplSame (x : Fm) : Prop := ∀ (y : Fm) (A3 : Option Addr) (c3 : Nat) (A4 : Option Addr) (c4 : Nat) (B3 : Option Addr) (d3 : Nat) (B4 : Option Addr) (d4 : Nat) (w : World), FmIn w x A3 c3 A4 c4 → FmIn w y B3 d3 B4 d4 →
    Calls Try.prog 128 #[.agg #[.int .i64 x.f0, .string x.f1, .int .i64 x.f2, .slice A3 x.f3.length c3, .slice A4 x.f4.length c4], .agg #[.int .i64 y.f0, .string y.f1, .int .i64 y.f2, .slice B3 y.f3.length d3, .slice B4 y.f4.length d4]] w (Ret w (.bool (eqB x y)))
set_option maxHeartbeats 4000000 in
set_option maxRecDepth 100000 in
theorem equalFunc_of (ks ls : List Fm) (hks : ∀ k, k ∈ ks → ImplSame k) (A B : Option Addr) (c d : Nat) (w : World) (hr : kF.C w A ks.length ks) (hc : ks.length ≤ c) (hr2 : kF.C w B ls.length ls) (hc2 : ls.length ≤ d) :
    Calls Try.prog 148 #[.slice A ks.length c, .slice B ls.length d, .func (.func 128) #[] #[]] w (Ret w (.bool (eqB ks ls))) := by
  have eg : ∀ args w, (callFunc 128 args).run Try.prog w = .ok (.enter 128 args) w := enters_of Try.func128 (by kernel_rfl) rfl
  have hmax := hr.2.1
  by_cases hl : ks.length = ls.length
  · have hl1 : ((ks.length : Int) == (ls.length : Int)) = true := by simp [hl]
    have hl2 : ((ks.length : Int) != (ls.length : Int)) = false := by simp [hl]
    have HL := Lib.hid hl
    have HK := Lib.hid hks
    clear hl hks
    go_enter Try.func148, Try.ntmps148
    go_wp2_with fail
    go_loopg [7, 8, 9, 17] ks.length (fun kq v7 v8 v9 v17 w' => ∃ i : Nat, i ≤ ks.length ∧ ks.length - i ≤ kq ∧ v17 = .int .i64 i ∧ Aside0 (∀ j (h : j < ks.length) (h2 : j < ls.length), j < i → ks[j] = ls[j]) ∧ Aside0 (Below w.heap.size w w'))
    case atStart => exact ⟨0, Nat.zero_le _, by omega, rfl, ⟨fun j _ _ h => absurd h (by omega)⟩, ⟨Below.refl _ _⟩⟩
    case round =>
      obtain ⟨i, hi, hg, rfl, HN, HW⟩ := hrel
      by_cases hlt : i < ks.length
      · have hlt2 : i < ls.length := by have := HL.out; omega
        obtain ⟨ad, G3, m3, G4, m4, e, g0, g1, g2, g3, g4, hk⟩ := kid_at (Kd.C_below hr HW.out) i hlt
        subst e
        obtain ⟨ad2, E3, f3, E4, f4, e2, h0, h1, h2, h3, h4, hk2⟩ := kid_at (Kd.C_below hr2 HW.out) i hlt2
        subst e2
        have HC := Lib.hid (fun W (hb : Below wr.heap.size wr W) => HK.out ks[i] (List.getElem_mem hlt) ls[i] G3 m3 G4 m4 E3 f3 E4 f4 W (hk.below hb) (hk2.below hb))
        clear hk hk2
        have hn := below_new wr (.cells #[.int .i64 ks[i].f0, .string ks[i].f1, .int .i64 ks[i].f2, .slice G3 ks[i].f3.length m3, .slice G4 ks[i].f4.length m4] 29)
        have k0 := ck0 hn h0
        have k1 := ck0 hn h1
        have k2 := ck0 hn h2
        have k3 := ck0 hn h3
        have k4 := ck0 hn h4
        clear hn
        go_wp2_with fail
        refine (HC.out _ (below_step (below_new _ _) (below_new _ _))).mono ?_
        rintro e w1 ⟨rfl, hb1⟩
        obtain ⟨_, _, b1⟩ := two_new hb1
        have B1 := Lib.hid b1
        clear hb1 b1
        cases he : eqB ks[i] ls[i] with
        | true =>
          have HE := Lib.hid (eqB_iff.1 he)
          clear he
          go_wp2_with fail
          go_roundg (ks.length - (i + 1))
          case measure => omega
          case rel =>
            refine ⟨i + 1, by omega, Nat.le_refl _, by go_num, ⟨fun j hj hj2 hji => ?_⟩, ⟨below_step HW.out B1.out⟩⟩
            rcases Nat.lt_or_ge j i with h | h
            · exact HN.out j hj hj2 h
            · obtain rfl : j = i := by omega
              exact HE.out
        | false =>
          have HE := Lib.hid he
          clear he
          go_wp2_with fail
          go_ret
          refine ⟨ret_b (eqB_no (fun h => ?_)), below_step HW.out B1.out⟩
          have := HE.out
          subst h
          rw [eqB_self] at this
          cases this
      · obtain rfl : i = ks.length := by omega
        go_wp2_with fail
        go_ret
        exact ⟨ret_b (eqB_yes (List.ext_getElem HL.out (fun j hj hj2 => HN.out j hj hj2 hj))), HW.out⟩
  · have hl2 : ((ks.length : Int) != (ls.length : Int)) = true := by simp; omega
    have hl1 : ((ks.length : Int) == (ls.length : Int)) = false := by rw [beq_eq_false_iff_ne]; omega
    have HL := Lib.hid hl
    clear hl
    go_enter Try.func148, Try.ntmps148
    go_wp2_with fail
    go_ret
    exact ⟨ret_b (eqB_no (fun h => HL.out (by rw [h]))), Below.refl _ _⟩
set_option maxHeartbeats 4000000 in
theorem implSame_any (x : Fm) : ImplSame x := by
  induction x using Fm.ind with
  | h x ih =>
    intro y A3 c3 A4 c4 B3 d3 B4 d4 w hx hy
    have HX := Lib.hid (fun (h1 : x.f0 = y.f0) (h2 : x.f1 = y.f1) (h3 : x.f2 = y.f2) (h4 : x.f3 = y.f3) (h5 : x.f4 = y.f4) => Fm.ext' h1 h2 h3 h4 h5)
    have hb1 := below_new w (.cells #[.int .i64 x.f0, .string x.f1, .int .i64 x.f2, .slice A3 x.f3.length c3, .slice A4 x.f4.length c4] 29)
    have hb2 := below_step hb1 (below_new _ (.cells #[.int .i64 y.f0, .string y.f1, .int .i64 y.f2, .slice B3 y.f3.length d3, .slice B4 y.f4.length d4] 29))
    have HB := Lib.hid hb2
    by_cases e1 : x.f0 = y.f0
    · have t1 : (x.f0 == y.f0) = true := by simpa using e1
      have t1' : (x.f0 != y.f0) = false := by simpa using e1
      have E1 := Lib.hid e1
      clear e1
      by_cases e2 : x.f1 = y.f1
      · have t2 : (x.f1.toList == y.f1.toList) = true := by rw [e2]; simp
        have t2' : (x.f1.toList != y.f1.toList) = false := by rw [e2]; simp
        have E2 := Lib.hid e2
        clear e2
        by_cases e3 : x.f2 = y.f2
        · have t3 : (x.f2 == y.f2) = true := by simpa using e3
          have t3' : (x.f2 != y.f2) = false := by simpa using e3
          have E3 := Lib.hid e3
          clear e3
          have HC := Lib.hid (equalI_any x.f3 y.f3 A3 B3 c3 d3 _ (Kd.C_below hx.g3 hb2) hx.l3 (Kd.C_below hy.g3 hb2) hy.l3)
          have HK := Lib.hid (fun W hb => equalFunc_of x.f4 y.f4 ih A4 B4 c4 d4 W (Kd.C_below hx.g4 hb) hx.l4 (Kd.C_below hy.g4 hb) hy.l4)
          clear ih hx hy hb1 hb2
          go_enter Try.func128, Try.ntmps128
          go_wp2_with fail
          refine HC.out.mono ?_
          rintro e w1 ⟨rfl, k1⟩
          have hz := blk_below (blk_below (blk_new w (.cells #[.int .i64 x.f0, .string x.f1, .int .i64 x.f2, .slice A3 x.f3.length c3, .slice A4 x.f4.length c4] 29)) (below_new _ _)) k1
          have hz2 := blk_below (blk_new (w.alloc (.cells #[.int .i64 x.f0, .string x.f1, .int .i64 x.f2, .slice A3 x.f3.length c3, .slice A4 x.f4.length c4] 29)) (.cells #[.int .i64 y.f0, .string y.f1, .int .i64 y.f2, .slice B3 y.f3.length d3, .slice B4 y.f4.length d4] 29)) k1
          rw [show (w.alloc (.cells #[.int .i64 x.f0, .string x.f1, .int .i64 x.f2, .slice A3 x.f3.length c3, .slice A4 x.f4.length c4] 29)).heap.size = w.heap.size + 1 from by simp] at hz2
          obtain ⟨_, _, _, _, q4⟩ := fm_cells hz
          obtain ⟨_, _, _, _, r4⟩ := fm_cells hz2
          have K1 := Lib.hid (below_step HB.out k1)
          clear hz hz2 k1
          by_cases e4 : x.f3 = y.f3
          · have E4 := Lib.hid e4
            rw [decide_eq_true e4]
            clear e4
            go_wp2_with fail
            refine (HK.out _ K1.out).mono ?_
            rintro e w2 ⟨rfl, k2⟩
            cases e5 : eqB x.f4 y.f4 with
            | true =>
              have E5 := Lib.hid (eqB_iff.1 e5)
              clear e5
              go_wp2_with fail
              go_ret
              exact ⟨ret_b (eqB_yes (HX.out E1.out E2.out E3.out E4.out E5.out)), below_step K1.out k2⟩
            | false =>
              have E5 := Lib.hid e5
              clear e5
              go_wp2_with fail
              go_ret
              refine ⟨ret_b (eqB_no (fun h => ?_)), below_step K1.out k2⟩
              have := E5.out
              rw [h, eqB_self] at this
              cases this
          · have E4 := Lib.hid e4
            rw [decide_eq_false e4]
            clear e4
            go_wp2_with fail
            go_ret
            exact ⟨ret_b (eqB_no (fun h => E4.out (by rw [h]))), K1.out⟩
        · have t3 : (x.f2 == y.f2) = false := by simpa using e3
          have t3' : (x.f2 != y.f2) = true := by simpa using e3
          have E3 := Lib.hid e3
          clear e3 ih hx hy hb1 hb2
          go_enter Try.func128, Try.ntmps128
          go_wp2_with fail
          go_ret
          exact ⟨ret_b (eqB_no (fun h => E3.out (by rw [h]))), HB.out⟩
      · have t2 : (x.f1.toList == y.f1.toList) = false := by rw [beq_eq_false_iff_ne]; exact fun h => e2 (toList_inj h)
        have t2' : (x.f1.toList != y.f1.toList) = true := by rw [bne_iff_ne]; exact fun h => e2 (toList_inj h)
        have E2 := Lib.hid e2
        clear e2 ih hx hy hb1 hb2
        go_enter Try.func128, Try.ntmps128
        go_wp2_with fail
        go_ret
        exact ⟨ret_b (eqB_no (fun h => E2.out (by rw [h]))), HB.out⟩
    · have t1 : (x.f0 == y.f0) = false := by simpa using e1
      have t1' : (x.f0 != y.f0) = true := by simpa using e1
      have E1 := Lib.hid e1
      clear e1 ih hx hy hb1 hb2
      go_enter Try.func128, Try.ntmps128
      go_wp2_with fail
      go_ret
      exact ⟨ret_b (eqB_no (fun h => E1.out (by rw [h]))), HB.out⟩
end Go.Proofs.Ytnaefjilcabkoaa
end
section
namespace Go.Proofs.Ytnaefjilcabkoaa.Q
open Go.RowKit Go.Proofs.YtnaefjilcabkoaaW.PrintWords Go.Proofs.YtnaefjilcabkoaaW.PrintLast Go.Proofs.YtnaefjilcabkoaaW.PrintMore
set_option linter.unusedVariables false
set_option linter.unusedSimpArgs false

/-! ### spec_NameValid: function 87, proved by hand -/
noncomputable def spec_NameValid.f (a0 : ByteArray) : Option (Bool) := gIf (a0.size ≤ 140737488351232) (nmB a0)
set_option maxRecDepth 100000 in
theorem spec_NameValid.calls (a0 : ByteArray) (r : Bool) (w : World)  (h : spec_NameValid.f a0 = some r) :
    Calls Try.prog 87 #[.string a0] w fun e w' => e = .returned (.bool r) ∧ Below w.heap.size w w' := by
  obtain ⟨ht, rfl⟩ := gIf_some h
  exact specName_any a0 w ht

/-! ### spec_l1Scopes: function 88, proved by hand -/
noncomputable def spec_l1Scopes.f (l0 : List Int) : Option (Bool) := some (pB (ScOk l0))
set_option maxRecDepth 100000 in
theorem spec_l1Scopes.calls (A0 : Option Addr) (c0 : Nat) (l0 : List Int) (r : Bool) (w : World) (hr0 : Kd.C (Kd.int .i64) w A0 l0.length l0) (hc0 : l0.length ≤ c0) (h : spec_l1Scopes.f l0 = some r) :
    Calls Try.prog 88 #[.slice A0 l0.length c0] w fun e w' => e = .returned (.bool r) ∧ Below w.heap.size w w' := by
  obtain rfl := Option.some.inj h
  exact l1Scopes_any l0 A0 c0 w hr0 hc0

/-! ### spec_FormValid: function 72, proved by hand -/
noncomputable def spec_FormValid.f (a0_0 : Int) (a0_1 : ByteArray) (a0_2 : Int) (l0_3 : List Int) (l0_4 : List (S29)) : Option (Bool) := gIf ((⟨a0_0, a0_1, a0_2, l0_3, l0_4⟩ : Fm).tot ≤ 1048576) (pB (FmOk (⟨a0_0, a0_1, a0_2, l0_3, l0_4⟩ : Fm)))
set_option maxRecDepth 100000 in
theorem spec_FormValid.calls (a0_0 : Int) (a0_1 : ByteArray) (a0_2 : Int) (A0_3 : Option Addr) (c0_3 : Nat) (l0_3 : List Int) (A0_4 : Option Addr) (c0_4 : Nat) (l0_4 : List (S29)) (r : Bool) (w : World) (hr0_3 : Kd.C (Kd.int .i64) w A0_3 l0_3.length l0_3) (hc0_3 : l0_3.length ≤ c0_3) (hr0_4 : Kd.C k29 w A0_4 l0_4.length l0_4) (hc0_4 : l0_4.length ≤ c0_4) (h : spec_FormValid.f a0_0 a0_1 a0_2 l0_3 l0_4 = some r) :
    Calls Try.prog 72 #[.agg #[.int .i64 a0_0, .string a0_1, .int .i64 a0_2, .slice A0_3 l0_3.length c0_3, .slice A0_4 l0_4.length c0_4]] w fun e w' => e = .returned (.bool r) ∧ Below w.heap.size w w' := by
  obtain ⟨ht, rfl⟩ := gIf_some h
  exact specValid_any (⟨a0_0, a0_1, a0_2, l0_3, l0_4⟩ : Fm) A0_3 c0_3 A0_4 c0_4 w ⟨hc0_3, hr0_3, hc0_4, hr0_4⟩ ht

/-! ### spec_l2Has: function 116, proved by hand -/
noncomputable def spec_l2Has.f (l0 : List Int) (a1 : Int) : Option (Bool) := some (decide (a1 ∈ l0))
set_option maxRecDepth 100000 in
theorem spec_l2Has.calls (A0 : Option Addr) (c0 : Nat) (l0 : List Int) (a1 : Int) (r : Bool) (w : World) (hr0 : Kd.C (Kd.int .i64) w A0 l0.length l0) (hc0 : l0.length ≤ c0) (h : spec_l2Has.f l0 a1 = some r) :
    Calls Try.prog 116 #[.slice A0 l0.length c0, .int .i64 a1] w fun e w' => e = .returned (.bool r) ∧ Below w.heap.size w w' := by
  obtain rfl := Option.some.inj h
  exact l2Has_any l0 a1 A0 c0 w hr0 hc0

/-! ### impl_within: function 93, proved by hand -/
noncomputable def impl_within.f (a0 : Int) (a1 : Int) (a2 : Int) : Option (Bool) := some (decide (a1 ≤ a0 ∧ a0 ≤ a2))
set_option maxRecDepth 100000 in
theorem impl_within.calls (a0 : Int) (a1 : Int) (a2 : Int) (r : Bool) (w : World)  (h : impl_within.f a0 a1 a2 = some r) :
    Calls Try.prog 93 #[.int .i64 a0, .int .i64 a1, .int .i64 a2] w fun e w' => e = .returned (.bool r) ∧ Below w.heap.size w w' := by
  obtain rfl := Option.some.inj h
  exact within_any a0 a1 a2 w

/-! ### impl_NameValid: function 91, proved by hand -/
noncomputable def impl_NameValid.f (a0 : ByteArray) : Option (Bool) := gIf (a0.size ≤ 140737488351232) (nmB a0)
set_option maxRecDepth 100000 in
theorem impl_NameValid.calls (a0 : ByteArray) (r : Bool) (w : World)  (h : impl_NameValid.f a0 = some r) :
    Calls Try.prog 91 #[.string a0] w fun e w' => e = .returned (.bool r) ∧ Below w.heap.size w w' := by
  obtain ⟨ht, rfl⟩ := gIf_some h
  exact implName_any a0 w ht

/-! ### impl_scopesOk: function 92, proved by hand -/
noncomputable def impl_scopesOk.f (l0 : List Int) : Option (Bool) := some (pB (ScOk l0))
set_option maxRecDepth 100000 in
theorem impl_scopesOk.calls (A0 : Option Addr) (c0 : Nat) (l0 : List Int) (r : Bool) (w : World) (hr0 : Kd.C (Kd.int .i64) w A0 l0.length l0) (hc0 : l0.length ≤ c0) (h : impl_scopesOk.f l0 = some r) :
    Calls Try.prog 92 #[.slice A0 l0.length c0] w fun e w' => e = .returned (.bool r) ∧ Below w.heap.size w w' := by
  obtain rfl := Option.some.inj h
  exact scopesOk_any l0 A0 c0 w hr0 hc0

/-! ### impl_FormValid: function 75, proved by hand -/
noncomputable def impl_FormValid.f (a0_0 : Int) (a0_1 : ByteArray) (a0_2 : Int) (l0_3 : List Int) (l0_4 : List (S29)) : Option (Bool) := gIf ((⟨a0_0, a0_1, a0_2, l0_3, l0_4⟩ : Fm).tot ≤ 1048576) (pB (FmOk (⟨a0_0, a0_1, a0_2, l0_3, l0_4⟩ : Fm)))
set_option maxRecDepth 100000 in
theorem impl_FormValid.calls (a0_0 : Int) (a0_1 : ByteArray) (a0_2 : Int) (A0_3 : Option Addr) (c0_3 : Nat) (l0_3 : List Int) (A0_4 : Option Addr) (c0_4 : Nat) (l0_4 : List (S29)) (r : Bool) (w : World) (hr0_3 : Kd.C (Kd.int .i64) w A0_3 l0_3.length l0_3) (hc0_3 : l0_3.length ≤ c0_3) (hr0_4 : Kd.C k29 w A0_4 l0_4.length l0_4) (hc0_4 : l0_4.length ≤ c0_4) (h : impl_FormValid.f a0_0 a0_1 a0_2 l0_3 l0_4 = some r) :
    Calls Try.prog 75 #[.agg #[.int .i64 a0_0, .string a0_1, .int .i64 a0_2, .slice A0_3 l0_3.length c0_3, .slice A0_4 l0_4.length c0_4]] w fun e w' => e = .returned (.bool r) ∧ Below w.heap.size w w' := by
  obtain ⟨ht, rfl⟩ := gIf_some h
  exact implValid_any (⟨a0_0, a0_1, a0_2, l0_3, l0_4⟩ : Fm) A0_3 c0_3 A0_4 c0_4 w ⟨hc0_3, hr0_3, hc0_4, hr0_4⟩ ht

/-! ### slices_Clone_int_int: function 121, proved by hand -/
noncomputable def slices_Clone_int_int.f (l0 : List Int) : Option ((List Int)) := gIf (l0.length ≤ 17592186044416) l0
set_option maxRecDepth 100000 in
theorem slices_Clone_int_int.calls (A0 : Option Addr) (c0 : Nat) (l0 : List Int) (r : List Int) (w : World) (hr0 : Kd.C (Kd.int .i64) w A0 l0.length l0) (hc0 : l0.length ≤ c0) (h : slices_Clone_int_int.f l0 = some r) :
    Calls Try.prog 121 #[.slice A0 l0.length c0] w fun e w' => ∃ v0_ : Value, e = .returned (v0_) ∧ Kd.R (Kd.int .i64) 3 w' w.heap.size (fun k_ => True) v0_ r ∧ Below w.heap.size w w' := by
  obtain ⟨ht, rfl⟩ := gIf_some h
  exact cloneI_any l0 A0 c0 w hr0 hc0 ht

/-! ### spec_l1Ints: function 89, proved by hand -/
noncomputable def spec_l1Ints.f (l0 : List Int) (l1 : List Int) : Option (Bool) := some (decide (l0 = l1))
set_option maxRecDepth 100000 in
theorem spec_l1Ints.calls (A0 : Option Addr) (c0 : Nat) (l0 : List Int) (A1 : Option Addr) (c1 : Nat) (l1 : List Int) (r : Bool) (w : World) (hr0 : Kd.C (Kd.int .i64) w A0 l0.length l0) (hc0 : l0.length ≤ c0) (hr1 : Kd.C (Kd.int .i64) w A1 l1.length l1) (hc1 : l1.length ≤ c1) (h : spec_l1Ints.f l0 l1 = some r) :
    Calls Try.prog 89 #[.slice A0 l0.length c0, .slice A1 l1.length c1] w fun e w' => e = .returned (.bool r) ∧ Below w.heap.size w w' := by
  obtain rfl := Option.some.inj h
  exact l1Ints_any l0 l1 A0 A1 c0 c1 w hr0 hc0 hr1 hc1

/-! ### spec_FormSame: function 100, proved by hand -/
noncomputable def spec_FormSame.f (a0_0 : Int) (a0_1 : ByteArray) (a0_2 : Int) (l0_3 : List Int) (l0_4 : List (S29)) (a1_0 : Int) (a1_1 : ByteArray) (a1_2 : Int) (l1_3 : List Int) (l1_4 : List (S29)) : Option (Bool) := some (eqB (⟨a0_0, a0_1, a0_2, l0_3, l0_4⟩ : Fm) (⟨a1_0, a1_1, a1_2, l1_3, l1_4⟩ : Fm))
set_option maxRecDepth 100000 in
theorem spec_FormSame.calls (a0_0 : Int) (a0_1 : ByteArray) (a0_2 : Int) (A0_3 : Option Addr) (c0_3 : Nat) (l0_3 : List Int) (A0_4 : Option Addr) (c0_4 : Nat) (l0_4 : List (S29)) (a1_0 : Int) (a1_1 : ByteArray) (a1_2 : Int) (A1_3 : Option Addr) (c1_3 : Nat) (l1_3 : List Int) (A1_4 : Option Addr) (c1_4 : Nat) (l1_4 : List (S29)) (r : Bool) (w : World) (hr0_3 : Kd.C (Kd.int .i64) w A0_3 l0_3.length l0_3) (hc0_3 : l0_3.length ≤ c0_3) (hr0_4 : Kd.C k29 w A0_4 l0_4.length l0_4) (hc0_4 : l0_4.length ≤ c0_4) (hr1_3 : Kd.C (Kd.int .i64) w A1_3 l1_3.length l1_3) (hc1_3 : l1_3.length ≤ c1_3) (hr1_4 : Kd.C k29 w A1_4 l1_4.length l1_4) (hc1_4 : l1_4.length ≤ c1_4) (h : spec_FormSame.f a0_0 a0_1 a0_2 l0_3 l0_4 a1_0 a1_1 a1_2 l1_3 l1_4 = some r) :
    Calls Try.prog 100 #[.agg #[.int .i64 a0_0, .string a0_1, .int .i64 a0_2, .slice A0_3 l0_3.length c0_3, .slice A0_4 l0_4.length c0_4], .agg #[.int .i64 a1_0, .string a1_1, .int .i64 a1_2, .slice A1_3 l1_3.length c1_3, .slice A1_4 l1_4.length c1_4]] w fun e w' => e = .returned (.bool r) ∧ Below w.heap.size w w' := by
  obtain rfl := Option.some.inj h
  exact specSame_any (⟨a0_0, a0_1, a0_2, l0_3, l0_4⟩ : Fm) (⟨a1_0, a1_1, a1_2, l1_3, l1_4⟩ : Fm) A0_3 c0_3 A0_4 c0_4 A1_3 c1_3 A1_4 c1_4 w ⟨hc0_3, hr0_3, hc0_4, hr0_4⟩ ⟨hc1_3, hr1_3, hc1_4, hr1_4⟩

/-! ### slices_Equal_int_int: function 96, proved by hand -/
noncomputable def slices_Equal_int_int.f (l0 : List Int) (l1 : List Int) : Option (Bool) := some (decide (l0 = l1))
set_option maxRecDepth 100000 in
theorem slices_Equal_int_int.calls (A0 : Option Addr) (c0 : Nat) (l0 : List Int) (A1 : Option Addr) (c1 : Nat) (l1 : List Int) (r : Bool) (w : World) (hr0 : Kd.C (Kd.int .i64) w A0 l0.length l0) (hc0 : l0.length ≤ c0) (hr1 : Kd.C (Kd.int .i64) w A1 l1.length l1) (hc1 : l1.length ≤ c1) (h : slices_Equal_int_int.f l0 l1 = some r) :
    Calls Try.prog 96 #[.slice A0 l0.length c0, .slice A1 l1.length c1] w fun e w' => e = .returned (.bool r) ∧ Below w.heap.size w w' := by
  obtain rfl := Option.some.inj h
  exact equalI_any l0 l1 A0 A1 c0 c1 w hr0 hc0 hr1 hc1

/-! ### impl_FormSame: function 128, proved by hand -/
noncomputable def impl_FormSame.f (a0_0 : Int) (a0_1 : ByteArray) (a0_2 : Int) (l0_3 : List Int) (l0_4 : List (S29)) (a1_0 : Int) (a1_1 : ByteArray) (a1_2 : Int) (l1_3 : List Int) (l1_4 : List (S29)) : Option (Bool) := some (eqB (⟨a0_0, a0_1, a0_2, l0_3, l0_4⟩ : Fm) (⟨a1_0, a1_1, a1_2, l1_3, l1_4⟩ : Fm))
set_option maxRecDepth 100000 in
theorem impl_FormSame.calls (a0_0 : Int) (a0_1 : ByteArray) (a0_2 : Int) (A0_3 : Option Addr) (c0_3 : Nat) (l0_3 : List Int) (A0_4 : Option Addr) (c0_4 : Nat) (l0_4 : List (S29)) (a1_0 : Int) (a1_1 : ByteArray) (a1_2 : Int) (A1_3 : Option Addr) (c1_3 : Nat) (l1_3 : List Int) (A1_4 : Option Addr) (c1_4 : Nat) (l1_4 : List (S29)) (r : Bool) (w : World) (hr0_3 : Kd.C (Kd.int .i64) w A0_3 l0_3.length l0_3) (hc0_3 : l0_3.length ≤ c0_3) (hr0_4 : Kd.C k29 w A0_4 l0_4.length l0_4) (hc0_4 : l0_4.length ≤ c0_4) (hr1_3 : Kd.C (Kd.int .i64) w A1_3 l1_3.length l1_3) (hc1_3 : l1_3.length ≤ c1_3) (hr1_4 : Kd.C k29 w A1_4 l1_4.length l1_4) (hc1_4 : l1_4.length ≤ c1_4) (h : impl_FormSame.f a0_0 a0_1 a0_2 l0_3 l0_4 a1_0 a1_1 a1_2 l1_3 l1_4 = some r) :
    Calls Try.prog 128 #[.agg #[.int .i64 a0_0, .string a0_1, .int .i64 a0_2, .slice A0_3 l0_3.length c0_3, .slice A0_4 l0_4.length c0_4], .agg #[.int .i64 a1_0, .string a1_1, .int .i64 a1_2, .slice A1_3 l1_3.length c1_3, .slice A1_4 l1_4.length c1_4]] w fun e w' => e = .returned (.bool r) ∧ Below w.heap.size w w' := by
  obtain rfl := Option.some.inj h
  exact implSame_any (⟨a0_0, a0_1, a0_2, l0_3, l0_4⟩ : Fm) (⟨a1_0, a1_1, a1_2, l1_3, l1_4⟩ : Fm) A0_3 c0_3 A0_4 c0_4 A1_3 c1_3 A1_4 c1_4 w ⟨hc0_3, hr0_3, hc0_4, hr0_4⟩ ⟨hc1_3, hr1_3, hc1_4, hr1_4⟩

/-! ### spec_ScopesWithin: function 129, proved by hand -/
noncomputable def spec_ScopesWithin.f (l0 : List Int) (l1 : List Int) : Option (Bool) := some (decide (∀ x, x ∈ l0 → x ∈ l1))
set_option maxRecDepth 100000 in
theorem spec_ScopesWithin.calls (A0 : Option Addr) (c0 : Nat) (l0 : List Int) (A1 : Option Addr) (c1 : Nat) (l1 : List Int) (r : Bool) (w : World) (hr0 : Kd.C (Kd.int .i64) w A0 l0.length l0) (hc0 : l0.length ≤ c0) (hr1 : Kd.C (Kd.int .i64) w A1 l1.length l1) (hc1 : l1.length ≤ c1) (h : spec_ScopesWithin.f l0 l1 = some r) :
    Calls Try.prog 129 #[.slice A0 l0.length c0, .slice A1 l1.length c1] w fun e w' => e = .returned (.bool r) ∧ Below w.heap.size w w' := by
  obtain rfl := Option.some.inj h
  exact specWithin_any l0 l1 A0 A1 c0 c1 w hr0 hc0 hr1 hc1

/-! ### impl_ScopesWithin: function 130, proved by hand -/
noncomputable def impl_ScopesWithin.f (l0 : List Int) (l1 : List Int) : Option (Bool) := some (decide (∀ x, x ∈ l0 → x ∈ l1))
set_option maxRecDepth 100000 in
theorem impl_ScopesWithin.calls (A0 : Option Addr) (c0 : Nat) (l0 : List Int) (A1 : Option Addr) (c1 : Nat) (l1 : List Int) (r : Bool) (w : World) (hr0 : Kd.C (Kd.int .i64) w A0 l0.length l0) (hc0 : l0.length ≤ c0) (hr1 : Kd.C (Kd.int .i64) w A1 l1.length l1) (hc1 : l1.length ≤ c1) (h : impl_ScopesWithin.f l0 l1 = some r) :
    Calls Try.prog 130 #[.slice A0 l0.length c0, .slice A1 l1.length c1] w fun e w' => e = .returned (.bool r) ∧ Below w.heap.size w w' := by
  obtain rfl := Option.some.inj h
  exact implWithin_any l0 l1 A0 A1 c0 c1 w hr0 hc0 hr1 hc1
end Go.Proofs.Ytnaefjilcabkoaa.Q
end
section
namespace Go.Proofs.Ytnaefjilcabkoaa.Q
open Go.RowKit Go.Proofs.YtnaefjilcabkoaaW.PrintWords Go.Proofs.YtnaefjilcabkoaaW.PrintLast Go.Proofs.YtnaefjilcabkoaaW.PrintMore
attribute [local go_sem] max2_int min2_int max_two min_two max_three min_three max_four min_four   -- for this text's walks alone
set_option linter.unusedVariables false
set_option linter.unusedSimpArgs false

/-! ### spec_l2Take: function 117 -/
def spec_l2Take.l0 : Nat → List Int → Int → List Int → Int → Option (List Int)
  | 0, _, _, _, _ => none
  | k + 1, x0, x1, x5, x6 => if x6 < (x0.length : Int) then (if 0 ≤ x6 then (if (rd x0 x6) = x1 then (spec_l2Take.l0 k x0 x1 x5 (wrap64 (x6 + 1))) else (if x5.length < 17592186044416 then (spec_l2Take.l0 k x0 x1 (x5 ++ [rd x0 x6]) (wrap64 (x6 + 1))) else (none))) else (none)) else (some x5)
def spec_l2Take.f (k : Nat) (l0 : List Int) (a1 : Int) : Option (List Int) := spec_l2Take.l0 k l0 a1 (([] : List Int)) 0
theorem spec_l2Take.mono_l : ∀ k, (∀ y0 y1 y2 y3, LeO (spec_l2Take.l0 k y0 y1 y2 y3) (spec_l2Take.l0 (k + 1) y0 y1 y2 y3))
  | 0 => fun _ _ _ _ r h => by simp [spec_l2Take.l0] at h
  | k + 1 => by
    have ih0 := spec_l2Take.mono_l k
    · intro y0 y1 y2 y3
      unfold spec_l2Take.l0
      repeat' first
      | (with_reducible exact ih0 _ _ _ _)
      | (with_reducible exact LeO.refl _)
      | (with_reducible exact LeO.none _)
      | (with_reducible refine LeO.ite ?_ ?_)
      | (with_reducible refine LeO.bind ?_ (fun _ => ?_))
      | exact ih0 _ _ _ _
      | exact LeO.none _
      | refine LeO.ite ?_ ?_
      | refine LeO.bind ?_ (fun _ => ?_)
theorem spec_l2Take.mono : ∀ a0 a1 k, LeO (spec_l2Take.f k a0 a1) (spec_l2Take.f (k + 1) a0 a1) := by
  intro a0 a1 k
  have ih0 := spec_l2Take.mono_l k
  unfold spec_l2Take.f
  repeat' first
      | (with_reducible exact ih0 _ _ _ _)
      | (with_reducible exact LeO.refl _)
      | (with_reducible exact LeO.none _)
      | (with_reducible refine LeO.ite ?_ ?_)
      | (with_reducible refine LeO.bind ?_ (fun _ => ?_))
      | exact ih0 _ _ _ _
      | exact LeO.none _
      | refine LeO.ite ?_ ?_
      | refine LeO.bind ?_ (fun _ => ?_)
set_option maxHeartbeats 8000000 in
set_option maxRecDepth 100000 in
theorem spec_l2Take.calls (k : Nat) (A0 : Option Addr) (c0 : Nat) (l0 : List Int) (a1 : Int) (r : List Int) (w : World) (hr0 : Kd.C (Kd.int .i64) w A0 l0.length l0) (hc0 : l0.length ≤ c0) (h : spec_l2Take.f k l0 a1 = some r) :
    Calls Try.prog 117 #[.slice A0 l0.length c0, .int .i64 a1] w fun e w' => ∃ v0_ : Value, e = .returned (v0_) ∧ Kd.R (Kd.int .i64) 3 w' w.heap.size (fun _ => True) v0_ r ∧ Below w.heap.size w w' := by
  have HR0 := Aside0.mk hr0
  have HC0 := Aside0.mk hc0
  clear hr0 hc0
  have HB := Aside0.mk (Below.refl w.heap.size w)
  have H : (spec_l2Take.l0 k l0 a1 (([] : List Int)) 0) = some r := h
  clear h
  obtain ⟨y150, hy150⟩ : ∃ y_ : List Int, y_ = (([] : List Int)) := ⟨_, rfl⟩
  replace H : (spec_l2Take.l0 k l0 a1 y150 0) = some r := by first | (rw [hy150]; with_reducible exact H) | (have H2_ := (Option.bind_some _ _).symm.trans H; rw [hy150]; with_reducible exact H2_) | (have H2_ := (Option.bind_some _ _).symm.trans H; with_reducible exact H2_) | with_reducible exact H | (rw [hy150]; exact H) | exact H
  have Ny150 := Aside0.mk hy150
  clear hy150
  have H' := Aside0.mk H
  clear H
  go_enter Try.func117, Try.ntmps117
  go_wp2_with (first | ((with_reducible refine gate_dst (N := 7) rfl ?_); refine Kd.R_lit (Kd.int .i64) _ 3 ?hg (N := 7) ?hd (xs := ([] : List Int)) (inner := []) (ok := fun _ => True) (okp := fun _ => True) ?hr ?hp (fun _ hk => hk) trivial (Below.refl _ _) (Nat.le_refl _) (by simp) ?_; (case hd => rfl); (case hg => rfl); (case hr => first | (go_simp; done) | (go_simp; rfl)); (case hp => exact (Reps.none _ _)); intro v151 w3 ho4 hb hg_ hnew_; clear hg_ hnew_; (first | rw [← Ny150.out] at ho4 | (simp only [Int.reduceToNat] at ho4; rw [← Ny150.out] at ho4)); have n0_ := Aside0.mk (Kd.R_lower ho4 (below_size (by repeat (first | (with_reducible first | exact HB.out | apply below_alloc | apply pw_below_drewN | apply below_drew1) | exact HB.out)))); have n1_ := Aside0.mk (below_step (by repeat (first | (with_reducible first | exact HB.out | apply below_alloc | apply pw_below_drewN | apply below_drew1) | exact HB.out)) hb); clear HB; have HO152 := n0_; have HB := n1_; clear n0_ n1_; clear hb ho4))
  go_loopg [5, 6] k (fun kq v5 v6 w' => ∃ (x5_1 : List Int) (x6_1 : Int), v6 = .int .i64 x6_1 ∧ Aside0 (spec_l2Take.l0 kq l0 a1 x5_1 x6_1 = some r) ∧ Aside0 (kq ≤ k) ∧ Aside0 (Kd.R (Kd.int .i64) 3 w' w.heap.size (fun _ => True) v5 x5_1) ∧ Aside0 (Below w.heap.size w w'))
  case atStart => exact ⟨(y150), (0), (by first | rfl | (simp; done) | (simp [*]; done)), H', ⟨Nat.le_refl _⟩, ⟨by (with_reducible repeat (first | apply Kd.R_alloc | apply Kd.R_drewN | apply Kd.R_drew)); exact HO152.out⟩, ⟨by repeat (first | (with_reducible first | exact HB.out | apply below_alloc | apply pw_below_drewN | apply below_drew1) | exact HB.out)⟩⟩
  case round =>
    clear H'
    try clear c1
    try clear p2
    obtain ⟨x5_1, x6_1, rfl, HA, HK1, HO_5, HB⟩ := hrel
    cases gk with
    | zero => exact absurd HA.out (by simp [spec_l2Take.l0])
    | succ k1 =>
      have H := HA.out
      clear HA
      simp only [spec_l2Take.l0] at H
      by_cases c5 : x6_1 < (l0.length : Int)
      · rw [if_pos c5] at H
        have c5b0 : decide (x6_1 < (l0.length : Int)) = true := decide_eq_true c5
        clear c5
        by_cases c6 : 0 ≤ x6_1
        · rw [if_pos c6] at H
          have c6b0 : decide (0 ≤ x6_1) = true := decide_eq_true c6
          clear c6
          by_cases c7 : (rd l0 x6_1) = a1
          · rw [if_pos c7] at H
            have c7b0 : ((rd l0 x6_1) == a1) = true := beq_iff_eq.mpr c7
            have c7b1 : ((rd l0 x6_1) != a1) = false := bne_eq_false_iff_eq.mpr c7
            clear c7
            have H' := Aside0.mk H
            clear H
            have p153 : 0 ≤ (x6_1 : Int) := of_decide_eq_true (by first | (with_reducible assumption) | assumption)
            have q153 : x6_1 < (l0.length : Int) := of_decide_eq_true (by first | (with_reducible assumption) | assumption)
            obtain ⟨ad153, e153, hx153_0⟩ := Kd.at_int HR0.out x6_1 p153 q153
            cases e153
            replace hx153_0 := (HB.out.cell (World.block_lt_of_cell? w _ hx153_0)).trans hx153_0
            replace p153 := eq_true p153
            replace q153 := eq_true q153
            go_wp2
            go_roundg k1
            case measure => have := HK1.out; omega
            case rel => exact ⟨(x5_1), (wrap64 (x6_1 + 1)), (by first | rfl | (simp; done) | (simp [*]; done)), H', ⟨by have := HK1.out; omega⟩, ⟨by (with_reducible repeat (first | apply Kd.R_alloc | apply Kd.R_drewN | apply Kd.R_drew)); exact HO_5.out⟩, ⟨by repeat (first | (with_reducible first | exact HB.out | apply below_alloc | apply pw_below_drewN | apply below_drew1) | exact HB.out)⟩⟩
          · rw [if_neg c7] at H
            have c7b0 : ((rd l0 x6_1) == a1) = false := beq_eq_false_iff_ne.mpr c7
            have c7b1 : ((rd l0 x6_1) != a1) = true := bne_iff_ne.mpr c7
            by_cases c8 : x5_1.length < 17592186044416
            · rw [if_pos c8] at H
              have LMc8 := Aside0.mk c8
              clear c8
              obtain ⟨y155, hy155⟩ : ∃ y_ : List Int, y_ = (x5_1 ++ [rd l0 x6_1]) := ⟨_, rfl⟩
              replace H : (spec_l2Take.l0 k1 l0 a1 y155 (wrap64 (x6_1 + 1))) = some r := by first | (rw [hy155]; with_reducible exact H) | (have H2_ := (Option.bind_some _ _).symm.trans H; rw [hy155]; with_reducible exact H2_) | (have H2_ := (Option.bind_some _ _).symm.trans H; with_reducible exact H2_) | with_reducible exact H | (rw [hy155]; exact H) | exact H
              have Ny155 := Aside0.mk hy155
              clear hy155
              have H' := Aside0.mk H
              clear H
              have p153 : 0 ≤ (x6_1 : Int) := of_decide_eq_true (by first | (with_reducible assumption) | assumption)
              have q153 : x6_1 < (l0.length : Int) := of_decide_eq_true (by first | (with_reducible assumption) | assumption)
              obtain ⟨ad153, e153, hx153_0⟩ := Kd.at_int HR0.out x6_1 p153 q153
              cases e153
              replace hx153_0 := (HB.out.cell (World.block_lt_of_cell? w _ hx153_0)).trans hx153_0
              replace p153 := eq_true p153
              replace q153 := eq_true q153
              have p154 : 0 ≤ (x6_1 : Int) := of_decide_eq_true (by first | (with_reducible assumption) | assumption)
              have q154 : x6_1 < (l0.length : Int) := of_decide_eq_true (by first | (with_reducible assumption) | assumption)
              obtain ⟨ad154, e154, hx154_0⟩ := Kd.at_int HR0.out x6_1 p154 q154
              obtain rfl : ad153 = ad154 := (by injection e154)
              replace hx154_0 := (HB.out.cell (World.block_lt_of_cell? w _ hx154_0)).trans hx154_0
              replace p154 := eq_true p154
              replace q154 := eq_true q154
              go_wp2_with (first | ((with_reducible refine gate_builtin (b := .append) (xs := #[.tmp 20, .tmp 25]) rfl ?_); at_builtin; refine Kd.R_append (Kd.int .i64) (w0 := w) w.heap.size rfl (.tmp 20) (.tmp 25) 22 3 (.int .i64 0) 8 rfl Try.underlying22 info3 rfl (by decide) (by omega) u5 x5_1 (rd l0 x6_1) [.int .i64 (rd l0 x6_1)] (fun _ => True) (fun _ => False) rfl rfl ?aP (fun _ hk => hk.elim) ?aF ?aO ?aB ?aS ?aL ?_; (case aP => exact rfl); (case aB => exact (by repeat (first | (with_reducible first | exact HB.out | apply below_alloc | apply pw_below_drewN | apply below_drew1) | exact HB.out))); (case aF => exact (fun _ _ => trivial)); (case aO => exact (by (with_reducible repeat (first | apply Kd.R_alloc | apply Kd.R_drewN | apply Kd.R_drew)); exact HO_5.out)); (case aS => exact (below_size (by repeat (first | (with_reducible first | exact HB.out | apply below_alloc | apply pw_below_drewN | apply below_drew1) | exact HB.out)))); (case aL => have := LMc8.out; omega); intro v156 w9 ho hb hg hat; rw [← Ny155.out] at ho; have n0_ := Aside0.mk (hb); have n1_ := Aside0.mk (ho); clear HB; clear HO_5; have HB := n0_; have HO157 := n1_; clear n0_ n1_; clear ho hb hg hat))
              go_roundg k1
              case measure => have := HK1.out; omega
              case rel => exact ⟨(y155), (wrap64 (x6_1 + 1)), (by first | rfl | (simp; done) | (simp [*]; done)), H', ⟨by have := HK1.out; omega⟩, ⟨by (with_reducible repeat (first | apply Kd.R_alloc | apply Kd.R_drewN | apply Kd.R_drew)); exact HO157.out⟩, ⟨by repeat (first | (with_reducible first | exact HB.out | apply below_alloc | apply pw_below_drewN | apply below_drew1) | exact HB.out)⟩⟩
            · rw [if_neg c8] at H
              exact absurd H (by simp)
        · rw [if_neg c6] at H
          exact absurd H (by simp)
      · rw [if_neg c5] at H
        have c5b0 : decide (x6_1 < (l0.length : Int)) = false := decide_eq_false c5
        clear c5
        obtain rfl := Option.some.inj H
        go_wp2
        go_ret
        exact ⟨_, by first | rfl | (simp [errW_none, errW_some] <;> rfl) | (simp [*, errW_none, errW_some] <;> rfl), by (with_reducible repeat (first | apply Kd.R_alloc | apply Kd.R_drewN | apply Kd.R_drew)); exact HO_5.out, by repeat (first | (with_reducible first | exact HB.out | apply below_alloc | apply pw_below_drewN | apply below_drew1) | exact HB.out)⟩

/-! ### cmp_isNaN_int: function 151 -/
def cmp_isNaN_int.f (a0 : Int) : Option (Bool) := some (a0 != a0)
set_option maxHeartbeats 8000000 in
set_option maxRecDepth 100000 in
theorem cmp_isNaN_int.calls (a0 : Int) (r : Bool) (w : World) (h : cmp_isNaN_int.f a0 = some r) :
    Calls Try.prog 151 #[.int .i64 a0] w fun e w' => e = .returned (.bool r) ∧ Drawn0 w w' := by
  have H : (some (a0 != a0)) = some r := h
  clear h
  obtain rfl := Option.some.inj H
  go_enter Try.func151, Try.ntmps151
  go_wp2
  go_ret
  exact ⟨by first | rfl | (simp; done) | (simp [*]; done), by repeat (first | exact Drawn0.refl _ | apply Drawn0.step)⟩

/-! ### cmp_Less_int: function 132 -/
def cmp_Less_int.f (a0 : Int) (a1 : Int) : Option (Bool) := (cmp_isNaN_int.f a0).bind fun t207 => (if t207 = true then ((cmp_isNaN_int.f a1).bind fun t208 => (if t208 = true then (some (decide (a0 < a1))) else (some true))) else (some (decide (a0 < a1))))
set_option maxHeartbeats 8000000 in
set_option maxRecDepth 100000 in
theorem cmp_Less_int.calls (a0 : Int) (a1 : Int) (r : Bool) (w : World) (h : cmp_Less_int.f a0 a1 = some r) :
    Calls Try.prog 132 #[.int .i64 a0, .int .i64 a1] w fun e w' => e = .returned (.bool r) ∧ Drawn0 w w' := by
  have H : ((cmp_isNaN_int.f a0).bind fun t207 => (if t207 = true then ((cmp_isNaN_int.f a1).bind fun t208 => (if t208 = true then (some (decide (a0 < a1))) else (some true))) else (some (decide (a0 < a1))))) = some r := h
  clear h
  replace H := Option.bind_eq_some_iff.mp H
  obtain ⟨t207, A30, H⟩ := H
  replace H : (if t207 = true then ((cmp_isNaN_int.f a1).bind fun t208 => (if t208 = true then (some (decide (a0 < a1))) else (some true))) else (some (decide (a0 < a1)))) = some r := H
  have A3 := Aside0.mk A30
  clear A30
  by_cases c4 : t207 = true
  · subst c4
    have H1 : ((cmp_isNaN_int.f a1).bind fun t208 => (if t208 = true then (some (decide (a0 < a1))) else (some true))) = some r := by rw [if_pos rfl] at H; exact H
    clear H
    have H := H1
    clear H1
    replace H := Option.bind_eq_some_iff.mp H
    obtain ⟨t208, A50, H⟩ := H
    replace H : (if t208 = true then (some (decide (a0 < a1))) else (some true)) = some r := H
    have A5 := Aside0.mk A50
    clear A50
    by_cases c6 : t208 = true
    · subst c6
      have H1 : (some (decide (a0 < a1))) = some r := by rw [if_pos rfl] at H; exact H
      clear H
      have H := H1
      clear H1
      obtain rfl := Option.some.inj H
      go_enter Try.func132, Try.ntmps132
      go_wp2_with (first | ((with_reducible refine gate_callee (f := 151) rfl ?_); refine goesL_ (some 6) rfl rfl Try.func151 (by kernel_rfl) rfl #[.int .i64 a0] rfl (by (try simp only [List.map_toArray, List.map_cons, List.map_nil]); first | done | rfl | (simp only [List.length_drop, List.length_take]; rfl)) ?_; (with_reducible refine (cmp_isNaN_int.calls a0 true _ A3.out).mono ?_); rintro e w' ⟨rfl, ⟨nd, rfl⟩⟩; refine ⟨_, rfl, ?_⟩) | (go_at_call 151; (with_reducible refine (cmp_isNaN_int.calls a1 true _ A5.out).mono ?_); rintro e w' ⟨rfl, ⟨nd, rfl⟩⟩))
      go_ret
      exact ⟨by first | rfl | (simp; done) | (simp [*]; done), by repeat (first | exact Drawn0.refl _ | apply Drawn0.step)⟩
    · replace c6 := Bool.eq_false_iff.mpr c6
      subst c6
      have H1 : (some true) = some r := by rw [if_neg (show ¬ (false = true) by decide)] at H; exact H
      clear H
      have H := H1
      clear H1
      obtain rfl := Option.some.inj H
      go_enter Try.func132, Try.ntmps132
      go_wp2_with (first | ((with_reducible refine gate_callee (f := 151) rfl ?_); refine goesL_ (some 6) rfl rfl Try.func151 (by kernel_rfl) rfl #[.int .i64 a0] rfl (by (try simp only [List.map_toArray, List.map_cons, List.map_nil]); first | done | rfl | (simp only [List.length_drop, List.length_take]; rfl)) ?_; (with_reducible refine (cmp_isNaN_int.calls a0 true _ A3.out).mono ?_); rintro e w' ⟨rfl, ⟨nd, rfl⟩⟩; refine ⟨_, rfl, ?_⟩) | (go_at_call 151; (with_reducible refine (cmp_isNaN_int.calls a1 false _ A5.out).mono ?_); rintro e w' ⟨rfl, ⟨nd, rfl⟩⟩))
      go_ret
      exact ⟨by first | rfl | (simp; done) | (simp [*]; done), by repeat (first | exact Drawn0.refl _ | apply Drawn0.step)⟩
  · replace c4 := Bool.eq_false_iff.mpr c4
    subst c4
    have H1 : (some (decide (a0 < a1))) = some r := by rw [if_neg (show ¬ (false = true) by decide)] at H; exact H
    clear H
    have H := H1
    clear H1
    obtain rfl := Option.some.inj H
    go_enter Try.func132, Try.ntmps132
    go_wp2_with (first | ((with_reducible refine gate_callee (f := 151) rfl ?_); refine goesL_ (some 6) rfl rfl Try.func151 (by kernel_rfl) rfl #[.int .i64 a0] rfl (by (try simp only [List.map_toArray, List.map_cons, List.map_nil]); first | done | rfl | (simp only [List.length_drop, List.length_take]; rfl)) ?_; (with_reducible refine (cmp_isNaN_int.calls a0 false _ A3.out).mono ?_); rintro e w' ⟨rfl, ⟨nd, rfl⟩⟩; refine ⟨_, rfl, ?_⟩))
    go_ret
    exact ⟨by first | rfl | (simp; done) | (simp [*]; done), by repeat (first | exact Drawn0.refl _ | apply Drawn0.step)⟩

end Go.Proofs.Ytnaefjilcabkoaa.Q
end
section
namespace Go.Proofs.Ytnaefjilcabkoaa.Q
open Go.RowKit Go.Proofs.YtnaefjilcabkoaaW.PrintWords Go.Proofs.YtnaefjilcabkoaaW.PrintLast Go.Proofs.YtnaefjilcabkoaaW.PrintMore
attribute [local go_sem] max2_int min2_int max_two min_two max_three min_three max_four min_four   -- for this text's walks alone
set_option linter.unusedVariables false
set_option linter.unusedSimpArgs false

/-! ### spec_l2Put: function 118 -/
noncomputable def spec_l2Put.l0 : Nat → List Int → Int → List Int → Bool → Int → Option (List Int)
  | 0, _, _, _, _, _ => none
  | k + 1, x0, x1, x5, x6, x7 => if x7 < (x0.length : Int) then (if x6 = true then (if 0 ≤ x7 then (if x5.length < 17592186044416 then (spec_l2Put.l0 k x0 x1 (x5 ++ [rd x0 x7]) x6 (wrap64 (x7 + 1))) else (none)) else (none)) else (if 0 ≤ x7 then (if (rd x0 x7) > x1 then (if x5.length < 17592186044416 then ((some (x5 ++ [x1] : List Int)).bind fun y167 => (if y167.length < 17592186044416 then (spec_l2Put.l0 k x0 x1 (y167 ++ [rd x0 x7]) true (wrap64 (x7 + 1))) else (none))) else (none)) else (if x5.length < 17592186044416 then (spec_l2Put.l0 k x0 x1 (x5 ++ [rd x0 x7]) x6 (wrap64 (x7 + 1))) else (none))) else (none))) else (if x6 = true then (some x5) else (if x5.length < 17592186044416 then (some (x5 ++ [x1])) else (none)))
noncomputable def spec_l2Put.f (k : Nat) (l0 : List Int) (a1 : Int) : Option (List Int) := (spec_l2Has.f l0 a1).bind fun t161 => (spec_l2Put.l0 k l0 a1 (([] : List Int)) t161 0)
theorem spec_l2Put.mono_l : ∀ k, (∀ y0 y1 y2 y3 y4, LeO (spec_l2Put.l0 k y0 y1 y2 y3 y4) (spec_l2Put.l0 (k + 1) y0 y1 y2 y3 y4))
  | 0 => fun _ _ _ _ _ r h => by simp [spec_l2Put.l0] at h
  | k + 1 => by
    have ih0 := spec_l2Put.mono_l k
    · intro y0 y1 y2 y3 y4
      unfold spec_l2Put.l0
      repeat' first
      | (with_reducible exact ih0 _ _ _ _ _)
      | (with_reducible exact LeO.refl _)
      | (with_reducible exact LeO.none _)
      | (with_reducible refine LeO.ite ?_ ?_)
      | (with_reducible refine LeO.bind ?_ (fun _ => ?_))
      | exact ih0 _ _ _ _ _
      | exact LeO.none _
      | refine LeO.ite ?_ ?_
      | refine LeO.bind ?_ (fun _ => ?_)
theorem spec_l2Put.mono : ∀ a0 a1 k, LeO (spec_l2Put.f k a0 a1) (spec_l2Put.f (k + 1) a0 a1) := by
  intro a0 a1 k
  have ih0 := spec_l2Put.mono_l k
  unfold spec_l2Put.f
  repeat' first
      | (with_reducible exact ih0 _ _ _ _ _)
      | (with_reducible exact LeO.refl _)
      | (with_reducible exact LeO.none _)
      | (with_reducible refine LeO.ite ?_ ?_)
      | (with_reducible refine LeO.bind ?_ (fun _ => ?_))
      | exact ih0 _ _ _ _ _
      | exact LeO.none _
      | refine LeO.ite ?_ ?_
      | refine LeO.bind ?_ (fun _ => ?_)
set_option maxHeartbeats 8000000 in
set_option maxRecDepth 100000 in
theorem spec_l2Put.calls (k : Nat) (A0 : Option Addr) (c0 : Nat) (l0 : List Int) (a1 : Int) (r : List Int) (w : World) (hr0 : Kd.C (Kd.int .i64) w A0 l0.length l0) (hc0 : l0.length ≤ c0) (h : spec_l2Put.f k l0 a1 = some r) :
    Calls Try.prog 118 #[.slice A0 l0.length c0, .int .i64 a1] w fun e w' => ∃ v0_ : Value, e = .returned (v0_) ∧ Kd.R (Kd.int .i64) 3 w' w.heap.size (fun _ => True) v0_ r ∧ Below w.heap.size w w' := by
  have HR0 := Aside0.mk hr0
  have HC0 := Aside0.mk hc0
  clear hr0 hc0
  have HB := Aside0.mk (Below.refl w.heap.size w)
  have H : ((spec_l2Has.f l0 a1).bind fun t161 => (spec_l2Put.l0 k l0 a1 (([] : List Int)) t161 0)) = some r := h
  clear h
  obtain ⟨y158, hy158⟩ : ∃ y_ : List Int, y_ = (([] : List Int)) := ⟨_, rfl⟩
  replace H : ((spec_l2Has.f l0 a1).bind fun t161 => (spec_l2Put.l0 k l0 a1 y158 t161 0)) = some r := by first | (rw [hy158]; with_reducible exact H) | (have H2_ := (Option.bind_some _ _).symm.trans H; rw [hy158]; with_reducible exact H2_) | (have H2_ := (Option.bind_some _ _).symm.trans H; with_reducible exact H2_) | with_reducible exact H | (rw [hy158]; exact H) | exact H
  have Ny158 := Aside0.mk hy158
  clear hy158
  replace H := Option.bind_eq_some_iff.mp H
  obtain ⟨t161, A30, H⟩ := H
  replace H : (spec_l2Put.l0 k l0 a1 y158 t161 0) = some r := H
  have A3 := Aside0.mk A30
  clear A30
  have H' := Aside0.mk H
  clear H
  go_enter Try.func118, Try.ntmps118
  go_wp2_with (first | ((with_reducible refine gate_dst (N := 8) rfl ?_); refine Kd.R_lit (Kd.int .i64) _ 3 ?hg (N := 8) ?hd (xs := ([] : List Int)) (inner := []) (ok := fun _ => True) (okp := fun _ => True) ?hr ?hp (fun _ hk => hk) trivial (Below.refl _ _) (Nat.le_refl _) (by simp) ?_; (case hd => rfl); (case hg => rfl); (case hr => first | (go_simp; done) | (go_simp; rfl)); (case hp => exact (Reps.none _ _)); intro v159 w4 ho5 hb hg_ hnew_; clear hg_ hnew_; (first | rw [← Ny158.out] at ho5 | (simp only [Int.reduceToNat] at ho5; rw [← Ny158.out] at ho5)); have n0_ := Aside0.mk (Kd.R_lower ho5 (below_size (by repeat (first | (with_reducible first | exact HB.out | apply below_alloc | apply pw_below_drewN | apply below_drew1) | exact HB.out)))); have n1_ := Aside0.mk (below_step (by repeat (first | (with_reducible first | exact HB.out | apply below_alloc | apply pw_below_drewN | apply below_drew1) | exact HB.out)) hb); clear HB; have HO160 := n0_; have HB := n1_; clear n0_ n1_; clear hb ho5) | ((with_reducible refine gate_callee (f := 116) rfl ?_); refine goesL_ (some 11) rfl rfl Try.func116 (by kernel_rfl) rfl #[.slice A0 l0.length c0, .int .i64 a1] rfl (by (try simp only [List.map_toArray, List.map_cons, List.map_nil]); first | done | rfl | (simp only [List.length_drop, List.length_take]; rfl)) ?_; (with_reducible refine (spec_l2Has.calls _ _ l0 a1 t161 _ ?side1 ?side2 A3.out).mono ?_); (case side1 => repeat (first | exact (Kd.C_below HR0.out HB.out) | (with_reducible refine Kd.C_alloc ?_ _) | (with_reducible refine Kd.C_drewN ?_ _) | (with_reducible refine Kd.C_drew ?_))); (case side2 => exact HC0.out); rintro e w6 ⟨rfl, hb⟩; refine ⟨_, rfl, ?_⟩; have n0_ := Aside0.mk (Kd.R_below (by (with_reducible repeat (first | apply Kd.R_alloc | apply Kd.R_drewN | apply Kd.R_drew)); exact HO160.out) hb); have n1_ := Aside0.mk (below_step (by repeat (first | (with_reducible first | exact HB.out | apply below_alloc | apply pw_below_drewN | apply below_drew1) | exact HB.out)) hb); clear HO160; clear HB; have HO160 := n0_; have HB := n1_; clear n0_ n1_; (try clear hb); (try clear hb2); (try clear hk); (try clear hi)))
  go_loopg [5, 6, 7] k (fun kq v5 v6 v7 w' => ∃ (x5_1 : List Int) (x6_1 : Bool) (x7_1 : Int), v6 = .bool x6_1 ∧ v7 = .int .i64 x7_1 ∧ Aside0 (spec_l2Put.l0 kq l0 a1 x5_1 x6_1 x7_1 = some r) ∧ Aside0 (kq ≤ k) ∧ Aside0 (Kd.R (Kd.int .i64) 3 w' w.heap.size (fun _ => True) v5 x5_1) ∧ Aside0 (Below w.heap.size w w'))
  case atStart => exact ⟨(y158), (t161), (0), (by first | rfl | (simp; done) | (simp [*]; done)), (by first | rfl | (simp; done) | (simp [*]; done)), H', ⟨Nat.le_refl _⟩, ⟨by (with_reducible repeat (first | apply Kd.R_alloc | apply Kd.R_drewN | apply Kd.R_drew)); exact HO160.out⟩, ⟨by repeat (first | (with_reducible first | exact HB.out | apply below_alloc | apply pw_below_drewN | apply below_drew1) | exact HB.out)⟩⟩
  case round =>
    clear H'
    try clear c1
    try clear p2
    obtain ⟨x5_1, x6_1, x7_1, rfl, rfl, HA, HK1, HO_5, HB⟩ := hrel
    cases gk with
    | zero => exact absurd HA.out (by simp [spec_l2Put.l0])
    | succ k1 =>
      have H := HA.out
      clear HA
      simp only [spec_l2Put.l0] at H
      by_cases c7 : x7_1 < (l0.length : Int)
      · rw [if_pos c7] at H
        have c7b0 : decide (x7_1 < (l0.length : Int)) = true := decide_eq_true c7
        clear c7
        by_cases c8 : x6_1 = true
        · subst c8
          have H1 : (if 0 ≤ x7_1 then (if x5_1.length < 17592186044416 then (spec_l2Put.l0 k1 l0 a1 (x5_1 ++ [rd l0 x7_1]) true (wrap64 (x7_1 + 1))) else (none)) else (none)) = some r := by rw [if_pos rfl] at H; exact H
          clear H
          have H := H1
          clear H1
          by_cases c9 : 0 ≤ x7_1
          · rw [if_pos c9] at H
            have c9b0 : decide (0 ≤ x7_1) = true := decide_eq_true c9
            clear c9
            by_cases c10 : x5_1.length < 17592186044416
            · rw [if_pos c10] at H
              have LMc10 := Aside0.mk c10
              clear c10
              obtain ⟨y163, hy163⟩ : ∃ y_ : List Int, y_ = (x5_1 ++ [rd l0 x7_1]) := ⟨_, rfl⟩
              replace H : (spec_l2Put.l0 k1 l0 a1 y163 true (wrap64 (x7_1 + 1))) = some r := by first | (rw [hy163]; with_reducible exact H) | (have H2_ := (Option.bind_some _ _).symm.trans H; rw [hy163]; with_reducible exact H2_) | (have H2_ := (Option.bind_some _ _).symm.trans H; with_reducible exact H2_) | with_reducible exact H | (rw [hy163]; exact H) | exact H
              have Ny163 := Aside0.mk hy163
              clear hy163
              have H' := Aside0.mk H
              clear H
              have p162 : 0 ≤ (x7_1 : Int) := of_decide_eq_true (by first | (with_reducible assumption) | assumption)
              have q162 : x7_1 < (l0.length : Int) := of_decide_eq_true (by first | (with_reducible assumption) | assumption)
              obtain ⟨ad162, e162, hx162_0⟩ := Kd.at_int HR0.out x7_1 p162 q162
              cases e162
              replace hx162_0 := (HB.out.cell (World.block_lt_of_cell? w _ hx162_0)).trans hx162_0
              replace p162 := eq_true p162
              replace q162 := eq_true q162
              go_wp2_with (first | ((with_reducible refine gate_builtin (b := .append) (xs := #[.tmp 32, .tmp 37]) rfl ?_); at_builtin; refine Kd.R_append (Kd.int .i64) (w0 := w) w.heap.size rfl (.tmp 32) (.tmp 37) 22 3 (.int .i64 0) 8 rfl Try.underlying22 info3 rfl (by decide) (by omega) u5 x5_1 (rd l0 x7_1) [.int .i64 (rd l0 x7_1)] (fun _ => True) (fun _ => False) rfl rfl ?aP (fun _ hk => hk.elim) ?aF ?aO ?aB ?aS ?aL ?_; (case aP => exact rfl); (case aB => exact (by repeat (first | (with_reducible first | exact HB.out | apply below_alloc | apply pw_below_drewN | apply below_drew1) | exact HB.out))); (case aF => exact (fun _ _ => trivial)); (case aO => exact (by (with_reducible repeat (first | apply Kd.R_alloc | apply Kd.R_drewN | apply Kd.R_drew)); exact HO_5.out)); (case aS => exact (below_size (by repeat (first | (with_reducible first | exact HB.out | apply below_alloc | apply pw_below_drewN | apply below_drew1) | exact HB.out)))); (case aL => have := LMc10.out; omega); intro v164 w11 ho hb hg hat; rw [← Ny163.out] at ho; have n0_ := Aside0.mk (hb); have n1_ := Aside0.mk (ho); clear HB; clear HO_5; have HB := n0_; have HO165 := n1_; clear n0_ n1_; clear ho hb hg hat))
              go_roundg k1
              case measure => have := HK1.out; omega
              case rel => exact ⟨(y163), (true), (wrap64 (x7_1 + 1)), (by first | rfl | (simp; done) | (simp [*]; done)), (by first | rfl | (simp; done) | (simp [*]; done)), H', ⟨by have := HK1.out; omega⟩, ⟨by (with_reducible repeat (first | apply Kd.R_alloc | apply Kd.R_drewN | apply Kd.R_drew)); exact HO165.out⟩, ⟨by repeat (first | (with_reducible first | exact HB.out | apply below_alloc | apply pw_below_drewN | apply below_drew1) | exact HB.out)⟩⟩
            · rw [if_neg c10] at H
              exact absurd H (by simp)
          · rw [if_neg c9] at H
            exact absurd H (by simp)
        · replace c8 := Bool.eq_false_iff.mpr c8
          subst c8
          have H1 : (if 0 ≤ x7_1 then (if (rd l0 x7_1) > a1 then (if x5_1.length < 17592186044416 then ((some (x5_1 ++ [a1] : List Int)).bind fun y167 => (if y167.length < 17592186044416 then (spec_l2Put.l0 k1 l0 a1 (y167 ++ [rd l0 x7_1]) true (wrap64 (x7_1 + 1))) else (none))) else (none)) else (if x5_1.length < 17592186044416 then (spec_l2Put.l0 k1 l0 a1 (x5_1 ++ [rd l0 x7_1]) false (wrap64 (x7_1 + 1))) else (none))) else (none)) = some r := by rw [if_neg (show ¬ (false = true) by decide)] at H; exact H
          clear H
          have H := H1
          clear H1
          by_cases c12 : 0 ≤ x7_1
          · rw [if_pos c12] at H
            have c12b0 : decide (0 ≤ x7_1) = true := decide_eq_true c12
            clear c12
            by_cases c13 : (rd l0 x7_1) > a1
            · rw [if_pos c13] at H
              have c13b0 : decide (a1 < (rd l0 x7_1)) = true := decide_eq_true c13
              clear c13
              by_cases c14 : x5_1.length < 17592186044416
              · rw [if_pos c14] at H
                have LMc14 := Aside0.mk c14
                clear c14
                obtain ⟨y167, hy167⟩ : ∃ y_ : List Int, y_ = (x5_1 ++ [a1]) := ⟨_, rfl⟩
                replace H : (if y167.length < 17592186044416 then (spec_l2Put.l0 k1 l0 a1 (y167 ++ [rd l0 x7_1]) true (wrap64 (x7_1 + 1))) else (none)) = some r := by first | (rw [hy167]; with_reducible exact H) | (have H2_ := (Option.bind_some _ _).symm.trans H; rw [hy167]; with_reducible exact H2_) | (have H2_ := (Option.bind_some _ _).symm.trans H; with_reducible exact H2_) | with_reducible exact H | (rw [hy167]; exact H) | exact H
                have Ny167 := Aside0.mk hy167
                clear hy167
                by_cases c15 : y167.length < 17592186044416
                · rw [if_pos c15] at H
                  have LMc15 := Aside0.mk c15
                  clear c15
                  obtain ⟨y171, hy171⟩ : ∃ y_ : List Int, y_ = (y167 ++ [rd l0 x7_1]) := ⟨_, rfl⟩
                  replace H : (spec_l2Put.l0 k1 l0 a1 y171 true (wrap64 (x7_1 + 1))) = some r := by first | (rw [hy171]; with_reducible exact H) | (have H2_ := (Option.bind_some _ _).symm.trans H; rw [hy171]; with_reducible exact H2_) | (have H2_ := (Option.bind_some _ _).symm.trans H; with_reducible exact H2_) | with_reducible exact H | (rw [hy171]; exact H) | exact H
                  have Ny171 := Aside0.mk hy171
                  clear hy171
                  have H' := Aside0.mk H
                  clear H
                  have p166 : 0 ≤ (x7_1 : Int) := of_decide_eq_true (by first | (with_reducible assumption) | assumption)
                  have q166 : x7_1 < (l0.length : Int) := of_decide_eq_true (by first | (with_reducible assumption) | assumption)
                  obtain ⟨ad166, e166, hx166_0⟩ := Kd.at_int HR0.out x7_1 p166 q166
                  cases e166
                  replace hx166_0 := (HB.out.cell (World.block_lt_of_cell? w _ hx166_0)).trans hx166_0
                  replace p166 := eq_true p166
                  replace q166 := eq_true q166
                  go_wp2_with (first | ((with_reducible refine gate_builtin (b := .append) (xs := #[.tmp 28, .tmp 30]) rfl ?_); at_builtin; refine Kd.R_append (Kd.int .i64) (w0 := w) w.heap.size rfl (.tmp 28) (.tmp 30) 22 3 (.int .i64 0) 8 rfl Try.underlying22 info3 rfl (by decide) (by omega) u5 x5_1 a1 [.int .i64 a1] (fun _ => True) (fun _ => False) rfl rfl ?aP (fun _ hk => hk.elim) ?aF ?aO ?aB ?aS ?aL ?_; (case aP => exact rfl); (case aB => exact (by repeat (first | (with_reducible first | exact HB.out | apply below_alloc | apply pw_below_drewN | apply below_drew1) | exact HB.out))); (case aF => exact (fun _ _ => trivial)); (case aO => exact (by (with_reducible repeat (first | apply Kd.R_alloc | apply Kd.R_drewN | apply Kd.R_drew)); exact HO_5.out)); (case aS => exact (below_size (by repeat (first | (with_reducible first | exact HB.out | apply below_alloc | apply pw_below_drewN | apply below_drew1) | exact HB.out)))); (case aL => have := LMc14.out; omega); intro v168 w16 ho hb hg hat; rw [← Ny167.out] at ho; have n0_ := Aside0.mk (hb); have n1_ := Aside0.mk (ho); clear HB; clear HO_5; have HB := n0_; have HO169 := n1_; clear n0_ n1_; clear ho hb hg hat; have p170 : 0 ≤ (x7_1 : Int) := of_decide_eq_true (by first | (with_reducible assumption) | assumption); have q170 : x7_1 < (l0.length : Int) := of_decide_eq_true (by first | (with_reducible assumption) | assumption); obtain ⟨ad170, e170, hx170_0⟩ := Kd.at_int HR0.out x7_1 p170 q170; obtain rfl : ad166 = ad170 := (by injection e170); replace hx170_0 := (HB.out.cell (World.block_lt_of_cell? w _ hx170_0)).trans hx170_0; replace p170 := eq_true p170; replace q170 := eq_true q170) | ((with_reducible refine gate_builtin (b := .append) (xs := #[.tmp 32, .tmp 37]) rfl ?_); at_builtin; refine Kd.R_append (Kd.int .i64) (w0 := w) w.heap.size rfl (.tmp 32) (.tmp 37) 22 3 (.int .i64 0) 8 rfl Try.underlying22 info3 rfl (by decide) (by omega) v168 y167 (rd l0 x7_1) [.int .i64 (rd l0 x7_1)] (fun _ => True) (fun _ => False) rfl rfl ?aP (fun _ hk => hk.elim) ?aF ?aO ?aB ?aS ?aL ?_; (case aP => exact rfl); (case aB => exact (by repeat (first | (with_reducible first | exact HB.out | apply below_alloc | apply pw_below_drewN | apply below_drew1) | exact HB.out))); (case aF => exact (fun _ _ => trivial)); (case aO => exact (by (with_reducible repeat (first | apply Kd.R_alloc | apply Kd.R_drewN | apply Kd.R_drew)); exact HO169.out)); (case aS => exact (below_size (by repeat (first | (with_reducible first | exact HB.out | apply below_alloc | apply pw_below_drewN | apply below_drew1) | exact HB.out)))); (case aL => have := LMc15.out; omega); intro v172 w17 ho hb hg hat; rw [← Ny171.out] at ho; have n0_ := Aside0.mk (hb); have n1_ := Aside0.mk (ho); clear HB; clear HO169; have HB := n0_; have HO173 := n1_; clear n0_ n1_; clear ho hb hg hat))
                  go_roundg k1
                  case measure => have := HK1.out; omega
                  case rel => exact ⟨(y171), (true), (wrap64 (x7_1 + 1)), (by first | rfl | (simp; done) | (simp [*]; done)), (by first | rfl | (simp; done) | (simp [*]; done)), H', ⟨by have := HK1.out; omega⟩, ⟨by (with_reducible repeat (first | apply Kd.R_alloc | apply Kd.R_drewN | apply Kd.R_drew)); exact HO173.out⟩, ⟨by repeat (first | (with_reducible first | exact HB.out | apply below_alloc | apply pw_below_drewN | apply below_drew1) | exact HB.out)⟩⟩
                · rw [if_neg c15] at H
                  exact absurd H (by simp)
              · rw [if_neg c14] at H
                exact absurd H (by simp)
            · rw [if_neg c13] at H
              have c13b0 : decide (a1 < (rd l0 x7_1)) = false := decide_eq_false c13
              clear c13
              by_cases c18 : x5_1.length < 17592186044416
              · rw [if_pos c18] at H
                have LMc18 := Aside0.mk c18
                clear c18
                obtain ⟨y175, hy175⟩ : ∃ y_ : List Int, y_ = (x5_1 ++ [rd l0 x7_1]) := ⟨_, rfl⟩
                replace H : (spec_l2Put.l0 k1 l0 a1 y175 false (wrap64 (x7_1 + 1))) = some r := by first | (rw [hy175]; with_reducible exact H) | (have H2_ := (Option.bind_some _ _).symm.trans H; rw [hy175]; with_reducible exact H2_) | (have H2_ := (Option.bind_some _ _).symm.trans H; with_reducible exact H2_) | with_reducible exact H | (rw [hy175]; exact H) | exact H
                have Ny175 := Aside0.mk hy175
                clear hy175
                have H' := Aside0.mk H
                clear H
                have p166 : 0 ≤ (x7_1 : Int) := of_decide_eq_true (by first | (with_reducible assumption) | assumption)
                have q166 : x7_1 < (l0.length : Int) := of_decide_eq_true (by first | (with_reducible assumption) | assumption)
                obtain ⟨ad166, e166, hx166_0⟩ := Kd.at_int HR0.out x7_1 p166 q166
                cases e166
                replace hx166_0 := (HB.out.cell (World.block_lt_of_cell? w _ hx166_0)).trans hx166_0
                replace p166 := eq_true p166
                replace q166 := eq_true q166
                have p174 : 0 ≤ (x7_1 : Int) := of_decide_eq_true (by first | (with_reducible assumption) | assumption)
                have q174 : x7_1 < (l0.length : Int) := of_decide_eq_true (by first | (with_reducible assumption) | assumption)
                obtain ⟨ad174, e174, hx174_0⟩ := Kd.at_int HR0.out x7_1 p174 q174
                obtain rfl : ad166 = ad174 := (by injection e174)
                replace hx174_0 := (HB.out.cell (World.block_lt_of_cell? w _ hx174_0)).trans hx174_0
                replace p174 := eq_true p174
                replace q174 := eq_true q174
                go_wp2_with (first | ((with_reducible refine gate_builtin (b := .append) (xs := #[.tmp 32, .tmp 37]) rfl ?_); at_builtin; refine Kd.R_append (Kd.int .i64) (w0 := w) w.heap.size rfl (.tmp 32) (.tmp 37) 22 3 (.int .i64 0) 8 rfl Try.underlying22 info3 rfl (by decide) (by omega) u5 x5_1 (rd l0 x7_1) [.int .i64 (rd l0 x7_1)] (fun _ => True) (fun _ => False) rfl rfl ?aP (fun _ hk => hk.elim) ?aF ?aO ?aB ?aS ?aL ?_; (case aP => exact rfl); (case aB => exact (by repeat (first | (with_reducible first | exact HB.out | apply below_alloc | apply pw_below_drewN | apply below_drew1) | exact HB.out))); (case aF => exact (fun _ _ => trivial)); (case aO => exact (by (with_reducible repeat (first | apply Kd.R_alloc | apply Kd.R_drewN | apply Kd.R_drew)); exact HO_5.out)); (case aS => exact (below_size (by repeat (first | (with_reducible first | exact HB.out | apply below_alloc | apply pw_below_drewN | apply below_drew1) | exact HB.out)))); (case aL => have := LMc18.out; omega); intro v176 w19 ho hb hg hat; rw [← Ny175.out] at ho; have n0_ := Aside0.mk (hb); have n1_ := Aside0.mk (ho); clear HB; clear HO_5; have HB := n0_; have HO177 := n1_; clear n0_ n1_; clear ho hb hg hat))
                go_roundg k1
                case measure => have := HK1.out; omega
                case rel => exact ⟨(y175), (false), (wrap64 (x7_1 + 1)), (by first | rfl | (simp; done) | (simp [*]; done)), (by first | rfl | (simp; done) | (simp [*]; done)), H', ⟨by have := HK1.out; omega⟩, ⟨by (with_reducible repeat (first | apply Kd.R_alloc | apply Kd.R_drewN | apply Kd.R_drew)); exact HO177.out⟩, ⟨by repeat (first | (with_reducible first | exact HB.out | apply below_alloc | apply pw_below_drewN | apply below_drew1) | exact HB.out)⟩⟩
              · rw [if_neg c18] at H
                exact absurd H (by simp)
          · rw [if_neg c12] at H
            exact absurd H (by simp)
      · rw [if_neg c7] at H
        have c7b0 : decide (x7_1 < (l0.length : Int)) = false := decide_eq_false c7
        clear c7
        by_cases c20 : x6_1 = true
        · subst c20
          have H1 : (some x5_1) = some r := by rw [if_pos rfl] at H; exact H
          clear H
          have H := H1
          clear H1
          obtain rfl := Option.some.inj H
          go_wp2
          go_ret
          exact ⟨_, by first | rfl | (simp [errW_none, errW_some] <;> rfl) | (simp [*, errW_none, errW_some] <;> rfl), by (with_reducible repeat (first | apply Kd.R_alloc | apply Kd.R_drewN | apply Kd.R_drew)); exact HO_5.out, by repeat (first | (with_reducible first | exact HB.out | apply below_alloc | apply pw_below_drewN | apply below_drew1) | exact HB.out)⟩
        · replace c20 := Bool.eq_false_iff.mpr c20
          subst c20
          have H1 : (if x5_1.length < 17592186044416 then (some (x5_1 ++ [a1])) else (none)) = some r := by rw [if_neg (show ¬ (false = true) by decide)] at H; exact H
          clear H
          have H := H1
          clear H1
          by_cases c21 : x5_1.length < 17592186044416
          · rw [if_pos c21] at H
            have LMc21 := Aside0.mk c21
            clear c21
            obtain ⟨y178, hy178⟩ : ∃ y_ : List Int, y_ = (x5_1 ++ [a1]) := ⟨_, rfl⟩
            replace H : (some y178) = some r := by first | (rw [hy178]; with_reducible exact H) | (have H2_ := (Option.bind_some _ _).symm.trans H; rw [hy178]; with_reducible exact H2_) | (have H2_ := (Option.bind_some _ _).symm.trans H; with_reducible exact H2_) | with_reducible exact H | (rw [hy178]; exact H) | exact H
            have Ny178 := Aside0.mk hy178
            clear hy178
            obtain rfl := Option.some.inj H
            go_wp2_with (first | ((with_reducible refine gate_builtin (b := .append) (xs := #[.tmp 41, .tmp 43]) rfl ?_); at_builtin; refine Kd.R_append (Kd.int .i64) (w0 := w) w.heap.size rfl (.tmp 41) (.tmp 43) 22 3 (.int .i64 0) 8 rfl Try.underlying22 info3 rfl (by decide) (by omega) u5 x5_1 a1 [.int .i64 a1] (fun _ => True) (fun _ => False) rfl rfl ?aP (fun _ hk => hk.elim) ?aF ?aO ?aB ?aS ?aL ?_; (case aP => exact rfl); (case aB => exact (by repeat (first | (with_reducible first | exact HB.out | apply below_alloc | apply pw_below_drewN | apply below_drew1) | exact HB.out))); (case aF => exact (fun _ _ => trivial)); (case aO => exact (by (with_reducible repeat (first | apply Kd.R_alloc | apply Kd.R_drewN | apply Kd.R_drew)); exact HO_5.out)); (case aS => exact (below_size (by repeat (first | (with_reducible first | exact HB.out | apply below_alloc | apply pw_below_drewN | apply below_drew1) | exact HB.out)))); (case aL => have := LMc21.out; omega); intro v179 w22 ho hb hg hat; rw [← Ny178.out] at ho; have n0_ := Aside0.mk (hb); have n1_ := Aside0.mk (ho); clear HB; clear HO_5; have HB := n0_; have HO180 := n1_; clear n0_ n1_; clear ho hb hg hat))
            go_ret
            exact ⟨_, by first | rfl | (simp [errW_none, errW_some] <;> rfl) | (simp [*, errW_none, errW_some] <;> rfl), by (with_reducible repeat (first | apply Kd.R_alloc | apply Kd.R_drewN | apply Kd.R_drew)); exact HO180.out, by repeat (first | (with_reducible first | exact HB.out | apply below_alloc | apply pw_below_drewN | apply below_drew1) | exact HB.out)⟩
          · rw [if_neg c21] at H
            exact absurd H (by simp)

/-! ### impl_isName: function 76 -/
noncomputable def impl_isName.f (a0_0 : Int) (a0_1 : ByteArray) (a0_2 : Int) (l0_3 : List Int) (l0_4 : List (S29)) : Option (Bool) := if a0_0 = 1 then ((impl_FormValid.f a0_0 a0_1 a0_2 l0_3 l0_4).bind fun t193 => (some t193)) else (some false)
set_option maxHeartbeats 8000000 in
set_option maxRecDepth 100000 in
theorem impl_isName.calls (a0_0 : Int) (a0_1 : ByteArray) (a0_2 : Int) (A0_3 : Option Addr) (c0_3 : Nat) (l0_3 : List Int) (A0_4 : Option Addr) (c0_4 : Nat) (l0_4 : List (S29)) (r : Bool) (w : World) (hr0_3 : Kd.C (Kd.int .i64) w A0_3 l0_3.length l0_3) (hc0_3 : l0_3.length ≤ c0_3) (hr0_4 : Kd.C k29 w A0_4 l0_4.length l0_4) (hc0_4 : l0_4.length ≤ c0_4) (h : impl_isName.f a0_0 a0_1 a0_2 l0_3 l0_4 = some r) :
    Calls Try.prog 76 #[.agg #[.int .i64 a0_0, .string a0_1, .int .i64 a0_2, .slice A0_3 l0_3.length c0_3, .slice A0_4 l0_4.length c0_4]] w fun e w' => e = .returned (.bool r) ∧ Below w.heap.size w w' := by
  have hu29 := Try.underlying29
  have HR0_3 := Aside0.mk hr0_3
  have HC0_3 := Aside0.mk hc0_3
  clear hr0_3 hc0_3
  have HR0_4 := Aside0.mk hr0_4
  have HC0_4 := Aside0.mk hc0_4
  clear hr0_4 hc0_4
  have HB := Aside0.mk (Below.refl w.heap.size w)
  have H : (if a0_0 = 1 then ((impl_FormValid.f a0_0 a0_1 a0_2 l0_3 l0_4).bind fun t193 => (some t193)) else (some false)) = some r := h
  clear h
  by_cases c2 : a0_0 = 1
  · rw [if_pos c2] at H
    have c2b0 : (a0_0 == 1) = true := beq_iff_eq.mpr c2
    have c2b1 : (a0_0 != 1) = false := bne_eq_false_iff_eq.mpr c2
    clear c2
    replace H := Option.bind_eq_some_iff.mp H
    obtain ⟨t193, A30, H⟩ := H
    replace H : (some t193) = some r := H
    have A3 := Aside0.mk A30
    clear A30
    obtain rfl := Option.some.inj H
    go_enter Try.func76, Try.ntmps76
    go_wp2_with (first | ((with_reducible refine gate_dst (N := 1) rfl ?_); refine box_event ?hg (N := 1) ?hd (cs := #[.int .i64 a0_0, .string a0_1, .int .i64 a0_2, .slice A0_3 l0_3.length c0_3, .slice A0_4 l0_4.length c0_4]) (t := 29) ?hr ?_; (case hd => rfl); (case hg => rfl); (case hr => first | (go_simp; done) | (go_simp; rfl)); intro gb192 hg w4 hbox hb; have n0_ := Aside0.mk (below_step (by repeat (first | (with_reducible first | exact HB.out | apply below_alloc | apply pw_below_drewN | apply below_drew1) | exact HB.out)) hb); have n1_ := Aside0.mk (hbox); have n2_ := Aside0.mk ((by rw [hg]; exact (below_size (by repeat (first | (with_reducible first | exact HB.out | apply below_alloc | apply pw_below_drewN | apply below_drew1) | exact HB.out))) : w.heap.size ≤ gb192)); have n3_ := Aside0.mk ((by rw [hg]; exact (below_size (by repeat (first | (with_reducible first | exact HB.out | apply below_alloc | apply pw_below_drewN | apply below_drew1) | exact HB.out))) : w.heap.size ≤ gb192)); clear HB; have HB := n0_; have BK192 := n1_; have GW192 := n2_; have GE192 := n3_; clear n0_ n1_ n2_ n3_; clear hb hbox hg; have hcz5_0 : w4.cell? ⟨gb192, 0, none⟩ = some (.int .i64 a0_0) := (blk_cell BK192.out 0).trans rfl; have hcz5_1 : w4.cell? ⟨gb192, 1, none⟩ = some (.string a0_1) := (blk_cell BK192.out 1).trans rfl; have hcz5_2 : w4.cell? ⟨gb192, 2, none⟩ = some (.int .i64 a0_2) := (blk_cell BK192.out 2).trans rfl; have hcz5_3 : w4.cell? ⟨gb192, 3, none⟩ = some (.slice A0_3 l0_3.length c0_3) := (blk_cell BK192.out 3).trans rfl; have hcz5_4 : w4.cell? ⟨gb192, 4, none⟩ = some (.slice A0_4 l0_4.length c0_4) := (blk_cell BK192.out 4).trans rfl; have hfz5_0 := blk_frozen BK192.out 0; have hfz5_1 := blk_frozen BK192.out 1; have hfz5_2 := blk_frozen BK192.out 2; have hfz5_3 := blk_frozen BK192.out 3; have hfz5_4 := blk_frozen BK192.out 4) | (go_at_call 75; (with_reducible refine (impl_FormValid.calls a0_0 a0_1 a0_2 _ _ l0_3 _ _ l0_4 t193 _ ?side1 ?side2 ?side3 ?side4 A3.out).mono ?_); (case side1 => repeat (first | exact (Kd.C_below HR0_3.out HB.out) | (with_reducible refine Kd.C_alloc ?_ _) | (with_reducible refine Kd.C_drewN ?_ _) | (with_reducible refine Kd.C_drew ?_))); (case side2 => exact HC0_3.out); (case side3 => repeat (first | exact (Kd.C_below HR0_4.out HB.out) | (with_reducible refine Kd.C_alloc ?_ _) | (with_reducible refine Kd.C_drewN ?_ _) | (with_reducible refine Kd.C_drew ?_))); (case side4 => exact HC0_4.out); rintro e w6 ⟨rfl, hb⟩; have n0_ := Aside0.mk (blk_below (g := gb192) (o := .cells #[.int .i64 a0_0, .string a0_1, .int .i64 a0_2, .slice A0_3 l0_3.length c0_3, .slice A0_4 l0_4.length c0_4] 29 (0, 0)) (by (with_reducible repeat (first | refine blk_drewN ?_ _ | refine blk_drew ?_ | refine blk_alloc ?_ _)); exact BK192.out) hb); have n1_ := Aside0.mk (below_step (by repeat (first | (with_reducible first | exact HB.out | apply below_alloc | apply pw_below_drewN | apply below_drew1 | refine below_set ?_ GE192.out) | exact HB.out)) hb); clear BK192; clear HB; have BK192 := n0_; have HB := n1_; clear n0_ n1_; (try clear hb); (try clear hb2); (try clear hk); (try clear hi)))
    go_ret
    exact ⟨by first | rfl | (simp [errW_none, errW_some] <;> rfl) | (simp [*, errW_none, errW_some] <;> rfl), by repeat (first | (with_reducible first | exact HB.out | apply below_alloc | apply pw_below_drewN | apply below_drew1 | refine below_set ?_ GE192.out) | exact HB.out)⟩
  · rw [if_neg c2] at H
    have c2b0 : (a0_0 == 1) = false := beq_eq_false_iff_ne.mpr c2
    have c2b1 : (a0_0 != 1) = true := bne_iff_ne.mpr c2
    obtain rfl := Option.some.inj H
    go_enter Try.func76, Try.ntmps76
    go_wp2_with (first | ((with_reducible refine gate_dst (N := 1) rfl ?_); refine box_event ?hg (N := 1) ?hd (cs := #[.int .i64 a0_0, .string a0_1, .int .i64 a0_2, .slice A0_3 l0_3.length c0_3, .slice A0_4 l0_4.length c0_4]) (t := 29) ?hr ?_; (case hd => rfl); (case hg => rfl); (case hr => first | (go_simp; done) | (go_simp; rfl)); intro gb192 hg w7 hbox hb; have n0_ := Aside0.mk (below_step (by repeat (first | (with_reducible first | exact HB.out | apply below_alloc | apply pw_below_drewN | apply below_drew1) | exact HB.out)) hb); have n1_ := Aside0.mk (hbox); have n2_ := Aside0.mk ((by rw [hg]; exact (below_size (by repeat (first | (with_reducible first | exact HB.out | apply below_alloc | apply pw_below_drewN | apply below_drew1) | exact HB.out))) : w.heap.size ≤ gb192)); have n3_ := Aside0.mk ((by rw [hg]; exact (below_size (by repeat (first | (with_reducible first | exact HB.out | apply below_alloc | apply pw_below_drewN | apply below_drew1) | exact HB.out))) : w.heap.size ≤ gb192)); clear HB; have HB := n0_; have BK192 := n1_; have GW192 := n2_; have GE192 := n3_; clear n0_ n1_ n2_ n3_; clear hb hbox hg; have hcz8_0 : w7.cell? ⟨gb192, 0, none⟩ = some (.int .i64 a0_0) := (blk_cell BK192.out 0).trans rfl; have hcz8_1 : w7.cell? ⟨gb192, 1, none⟩ = some (.string a0_1) := (blk_cell BK192.out 1).trans rfl; have hcz8_2 : w7.cell? ⟨gb192, 2, none⟩ = some (.int .i64 a0_2) := (blk_cell BK192.out 2).trans rfl; have hcz8_3 : w7.cell? ⟨gb192, 3, none⟩ = some (.slice A0_3 l0_3.length c0_3) := (blk_cell BK192.out 3).trans rfl; have hcz8_4 : w7.cell? ⟨gb192, 4, none⟩ = some (.slice A0_4 l0_4.length c0_4) := (blk_cell BK192.out 4).trans rfl; have hfz8_0 := blk_frozen BK192.out 0; have hfz8_1 := blk_frozen BK192.out 1; have hfz8_2 := blk_frozen BK192.out 2; have hfz8_3 := blk_frozen BK192.out 3; have hfz8_4 := blk_frozen BK192.out 4))
    go_ret
    exact ⟨by first | rfl | (simp [errW_none, errW_some] <;> rfl) | (simp [*, errW_none, errW_some] <;> rfl), by repeat (first | (with_reducible first | exact HB.out | apply below_alloc | apply pw_below_drewN | apply below_drew1 | refine below_set ?_ GE192.out) | exact HB.out)⟩

end Go.Proofs.Ytnaefjilcabkoaa.Q
end
section
namespace Go.Proofs.Ytnaefjilcabkoaa
open Go.RowKit Go.Proofs.YtnaefjilcabkoaaW.PrintWords Go.Proofs.Ytnaefjilcabkoaa.Q
set_option linter.unusedVariables false
set_option linter.unusedSimpArgs false
theorem rdI (l : List Int) (i : Nat) (h : i < l.length) : rd l (i : Int) = l[i] := by
  simp [rd, h]
theorem ev_l2Take (l : List Int) (x : Int) (hl : l.length ≤ 1000000) : Ev (fun k => spec_l2Take.f k l x) (takeO l x) := by
  simp only [spec_l2Take.f]
  obtain ⟨r, hp, hr⟩ := ev_loop (L := fun k (s : Int × List Int) => spec_l2Take.l0 k l x s.2 s.1) (fun i s => s = ((i : Int), takeO (l.take i) x)) l.length (· = takeO l x) (by
    rintro i s hi rfl
    have hle : (takeO (l.take i) x).length ≤ 1000000 := Nat.le_trans (len_takeO_le _ _) (by simp; omega)
    by_cases hx : l[i] = x
    · refine ⟨((i + 1 : Nat), takeO (l.take (i + 1)) x), rfl, fun r hr => ?_⟩
      refine Ev.step (fun k => by rw [spec_l2Take.l0]) (Ev.pos (by simpa using hi) (Ev.pos (by simp) (Ev.pos (by rw [rdI _ _ hi]; exact hx) ?_)))
      rw [wr1 _ (by omega)]
      rw [show takeO (l.take (i + 1)) x = takeO (l.take i) x from by rw [List.take_succ_eq_append_getElem hi, takeO, List.filter_append]; simp [hx]] at hr
      exact hr
    · refine ⟨((i + 1 : Nat), takeO (l.take (i + 1)) x), rfl, fun r hr => ?_⟩
      refine Ev.step (fun k => by rw [spec_l2Take.l0]) (Ev.pos (by simpa using hi) (Ev.pos (by simp) (Ev.neg (by rw [rdI _ _ hi]; exact hx) (Ev.pos (by dsimp only; omega) ?_))))
      rw [wr1 _ (by omega), rdI _ _ hi]
      rw [show takeO (l.take (i + 1)) x = takeO (l.take i) x ++ [l[i]] from by rw [List.take_succ_eq_append_getElem hi, takeO, List.filter_append]; congr 1; simp [hx]] at hr
      exact hr) (by
    rintro s rfl
    refine ⟨_, rfl, Ev.step (fun k => by rw [spec_l2Take.l0]) (Ev.neg (by simp) ?_)⟩
    rw [List.take_length]
    exact Ev.now _) (0, []) rfl
  subst hp
  exact hr
theorem ev_l2Put (l : List Int) (x : Int) (hs : Srt l) (hl : l.length ≤ 1000000) : Ev (fun k => spec_l2Put.f k l x) (putS l x) := by
  simp only [spec_l2Put.f]
  refine Ev.bind (g := fun _ => _) (Ev.some rfl) ?_
  by_cases hx : x ∈ l
  · rw [decide_eq_true hx, putS_same hx]
    obtain ⟨r, hp, hr⟩ := ev_loop (L := fun k (s : Int × List Int) => spec_l2Put.l0 k l x s.2 true s.1) (fun i s => s = ((i : Int), l.take i)) l.length (· = l) (by
      rintro i s hi rfl
      refine ⟨((i + 1 : Nat), l.take i ++ [l[i]]), by rw [takeS hi], fun r hr => ?_⟩
      refine Ev.step (fun k => by rw [spec_l2Put.l0]) (Ev.pos (by simpa using hi) (Ev.pos rfl (Ev.pos (by simp) (Ev.pos (by simp; omega) ?_))))
      rw [wr1 _ (by omega), rdI _ _ hi]
      exact hr) (by
      rintro s rfl
      refine ⟨_, rfl, Ev.step (fun k => by rw [spec_l2Put.l0]) (Ev.neg (by simp) (Ev.pos rfl ?_))⟩
      rw [List.take_length]
      exact Ev.now _) (0, []) rfl
    subst hp
    exact hr
  · rw [decide_eq_false hx]
    obtain ⟨c1, c2⟩ := srt_cut x hs
    obtain ⟨c, hc⟩ : ∃ c, c = l.countP (· < x) := ⟨_, rfl⟩
    have hcl : c ≤ l.length := by rw [hc]; exact List.countP_le_length
    have hput : putS l x = l.take c ++ x :: l.drop c := by unfold putS; rw [if_neg hx, hc]; rfl
    rw [← hc] at c1 c2
    have d1 : ∀ i (h : i < l.length), i < c → l[i] < x := fun i h hi => c1 _ (by rw [List.mem_take_iff_getElem]; exact ⟨i, by omega, rfl⟩)
    have d2 : ∀ i (h : i < l.length), c ≤ i → x < l[i] := fun i h hi => by
      have h1 := c2 l[i] (by rw [List.mem_drop_iff_getElem]; exact ⟨i - c, by omega, by congr 1; omega⟩)
      have : l[i] ≠ x := fun e => hx (e ▸ List.getElem_mem h)
      omega
    obtain ⟨r, hp, hr⟩ := ev_loop (L := fun k (s : Int × Bool × List Int) => spec_l2Put.l0 k l x s.2.2 s.2.1 s.1) (fun i s => s.1 = (i : Int) ∧ ((i ≤ c ∧ s.2.1 = false ∧ s.2.2 = l.take i) ∨ (c < i ∧ s.2.1 = true ∧ s.2.2 = l.take c ++ x :: (l.take i).drop c))) l.length (· = putS l x) (by
      rintro i ⟨s1, s2, s3⟩ hi ⟨rfl, h⟩
      rcases h with ⟨h1, h2, h3⟩ | ⟨h1, h2, h3⟩
      · have h2' : s2 = false := h2
        have h3' : s3 = l.take i := h3
        subst h2' h3'
        by_cases hic : i = c
        · subst hic
          refine ⟨((i + 1 : Nat), true, (l.take i ++ [x]) ++ [l[i]]), ⟨rfl, .inr ⟨by omega, rfl, ?_⟩⟩, fun r hr => ?_⟩
          · show _ = _
            rw [List.append_assoc]
            congr 1
            rw [List.take_succ_eq_append_getElem hi, List.drop_append]
            simp [Nat.min_eq_left (Nat.le_of_lt hi)]
          · refine Ev.step (fun k => by rw [spec_l2Put.l0]) ?_
            refine Ev.pos (by simpa using hi) (Ev.neg (by simp) (Ev.pos (by simp) (Ev.pos (by rw [rdI _ _ hi]; exact d2 i hi (Nat.le_refl _)) (Ev.pos (by simp; omega) (Ev.bind (g := fun _ => _) (Ev.some rfl) (Ev.pos (by simp; omega) ?_))))))
            rw [wr1 _ (by omega), rdI _ _ hi]
            exact hr
        · refine ⟨((i + 1 : Nat), false, l.take i ++ [l[i]]), ⟨rfl, .inl ⟨by omega, rfl, by rw [takeS hi]⟩⟩, fun r hr => ?_⟩
          refine Ev.step (fun k => by rw [spec_l2Put.l0]) (Ev.pos (by simpa using hi) (Ev.neg (by simp) (Ev.pos (by simp) (Ev.neg (by rw [rdI _ _ hi]; have := d1 i hi (by omega); omega) (Ev.pos (by simp; omega) ?_)))))
          rw [wr1 _ (by omega), rdI _ _ hi]
          exact hr
      · have h2' : s2 = true := h2
        have h3' : s3 = l.take c ++ x :: (l.take i).drop c := h3
        subst h2' h3'
        refine ⟨((i + 1 : Nat), true, (l.take c ++ x :: (l.take i).drop c) ++ [l[i]]), ⟨rfl, .inr ⟨by omega, rfl, ?_⟩⟩, fun r hr => ?_⟩
        · show _ = _
          rw [List.take_succ_eq_append_getElem hi, List.drop_append_of_le_length (by simp; omega)]
          simp
        · refine Ev.step (fun k => by rw [spec_l2Put.l0]) (Ev.pos (by simpa using hi) (Ev.pos rfl (Ev.pos (by simp) (Ev.pos (by simp; omega) ?_))))
          rw [wr1 _ (by omega), rdI _ _ hi]
          exact hr) (by
      rintro ⟨s1, s2, s3⟩ ⟨rfl, h⟩
      refine ⟨_, rfl, ?_⟩
      rcases h with ⟨h1, h2, h3⟩ | ⟨h1, h2, h3⟩
      · have h2' : s2 = false := h2
        have h3' : s3 = l.take l.length := h3
        subst h2' h3'
        have : c = l.length := by omega
        refine Ev.step (fun k => by rw [spec_l2Put.l0]) (Ev.neg (by simp) (Ev.neg (by simp) (Ev.pos (by simp; omega) ?_)))
        rw [hput, this, List.take_length, List.drop_length]
        exact Ev.now _
      · have h2' : s2 = true := h2
        have h3' : s3 = l.take c ++ x :: (l.take l.length).drop c := h3
        subst h2' h3'
        refine Ev.step (fun k => by rw [spec_l2Put.l0]) (Ev.neg (by simp) (Ev.pos rfl ?_))
        rw [hput, List.take_length]
        exact Ev.now _) (0, false, []) ⟨rfl, .inl ⟨Nat.zero_le _, rfl, by simp⟩⟩
    subst hp
    exact hr
/-- What a change of scopes does to one set: way 0 puts in, 1 flips, 2 takes out. -/
def wayS (n : Int) (way : Int) (l : List Int) : List Int := if way = 2 then takeO l n else if way = 1 then flipS l n else putS l n
end Go.Proofs.Ytnaefjilcabkoaa
end
section
namespace Go.Proofs.Ytnaefjilcabkoaa
open Go.RowKit Go.Proofs.YtnaefjilcabkoaaW.PrintWords Go.Proofs.YtnaefjilcabkoaaW.PrintLast Go.Proofs.YtnaefjilcabkoaaW.PrintMore Go.Proofs.Ytnaefjilcabkoaa.Q
set_option linter.unusedVariables false
theorem l2Take_any (l : List Int) (n : Int) (A : Option Addr) (c : Nat) (w : World) (hr : kI.C w A l.length l) (hc : l.length ≤ c) (hl : l.length ≤ 1000000) : Calls Try.prog 117 #[.slice A l.length c, .int .i64 n] w (RetI w (takeO l n)) := by
  obtain ⟨k, hk⟩ := (ev_l2Take l n hl).rounds
  exact spec_l2Take.calls k A c l n _ w hr hc hk
theorem l2Put_any (l : List Int) (n : Int) (A : Option Addr) (c : Nat) (w : World) (hr : kI.C w A l.length l) (hc : l.length ≤ c) (hs : Srt l) (hl : l.length ≤ 1000000) : Calls Try.prog 118 #[.slice A l.length c, .int .i64 n] w (RetI w (putS l n)) := by
  obtain ⟨k, hk⟩ := (ev_l2Put l n hs hl).rounds
  exact spec_l2Put.calls k A c l n _ w hr hc hk
end Go.Proofs.Ytnaefjilcabkoaa
end
section
namespace Go.Proofs.Ytnaefjilcabkoaa
open Go.RowKit Go.Proofs.YtnaefjilcabkoaaW.PrintWords Go.Proofs.YtnaefjilcabkoaaW.PrintLast Go.Proofs.YtnaefjilcabkoaaW.PrintMore
set_option linter.unusedVariables false
set_option linter.unusedSimpArgs false
theorem isOk_kids {x : Fm} (h : ∃ m, IsOk m x) : ∀ k, k ∈ x.f4 → ∃ m, IsOk m k := by
  intro k hk
  obtain ⟨q, h⟩ := h
  obtain ⟨m, rfl, h | h | h⟩ := isOk_cases h
  · rw [h.2.2.2.2] at hk; cases hk
  · rw [h.2.2.2.2.2] at hk; cases hk
  · exact ⟨m, h.2.2.2.2 k hk⟩
/-- The scopes of names are in order, and no other form has any. -/
inductive SrtF : Fm → Prop
  | mk (x : Fm) (h1 : x.f0 = 1 → Srt x.f3 ∧ x.f3.length ≤ 100000) (h2 : x.f0 ≠ 1 → x.f3 = []) (hk : ∀ k, k ∈ x.f4 → SrtF k) : SrtF x
theorem SrtF.at {x : Fm} (h : SrtF x) : x.f0 = 1 → Srt x.f3 ∧ x.f3.length ≤ 100000 := by cases h; assumption
theorem SrtF.no {x : Fm} (h : SrtF x) : x.f0 ≠ 1 → x.f3 = [] := by cases h; assumption
theorem SrtF.kid {x : Fm} (h : SrtF x) : ∀ k, k ∈ x.f4 → SrtF k := by cases h; assumption
set_option maxHeartbeats 4000000 in
set_option maxRecDepth 100000 in
theorem l2ChangeS_any (n way : Int) : ∀ x : Fm, SrtF x → ∀ (A3 : Option Addr) (c3 : Nat) (A4 : Option Addr) (c4 : Nat) (w : World), FmIn w x A3 c3 A4 c4 → x.tot ≤ 1000000000 →
    Calls Try.prog 74 #[.agg #[.int .i64 x.f0, .string x.f1, .int .i64 x.f2, .slice A3 x.f3.length c3, .slice A4 x.f4.length c4], .int .i64 n, .int .i64 way] w (RetF w (x.chS (wayS n way))) := by
  intro x
  induction x using Fm.ind with
  | h x ih =>
    intro ha A3 c3 A4 c4 w hin ht
    have hmax := hin.g4.2.1
    have HI := Lib.hid hin
    have HT := Lib.hid ht
    have IH := Lib.hid ih
    have HA := Lib.hid ha
    clear hin ht ih ha
    go_enter Try.func74, Try.ntmps74
    go_wp2_with fail
    obtain ⟨kb1, kb2, hb0⟩ := two_new (w := w) (O1 := (.cells #[.int .i64 x.f0, .string x.f1, .int .i64 x.f2, .slice A3 x.f3.length c3, .slice A4 x.f4.length c4] 29)) (O2 := (.cells #[.int .i64 0, .string ⟨#[]⟩, .int .i64 0, .slice none 0 0, .slice none 0 0] 29)) (Below.refl _ _).drew
    obtain ⟨p0, p1, p2, p3, p4⟩ := fm_cells kb1
    refine start_ (n := 13) (S := fun w' => w'.cell? ⟨w.heap.size, 0, none⟩ = some (.int .i64 x.f0) ∧ w'.cell? ⟨w.heap.size, 1, none⟩ = some (.string x.f1) ∧ w'.cell? ⟨w.heap.size, 2, none⟩ = some (.int .i64 x.f2) ∧ w'.cell? ⟨w.heap.size, 3, none⟩ = some (.slice A3 x.f3.length c3)) (ds := []) #[false, false, false, false, false, false, false, false, false, false, false, false, false] (by kernel_rfl) rfl rfl ⟨p0, p1, p2, p3⟩ (fun hHeld => ?_)
    have hsz : w.heap.size + 2 ≤ (((w.alloc (.cells #[.int .i64 x.f0, .string x.f1, .int .i64 x.f2, .slice A3 x.f3.length c3, .slice A4 x.f4.length c4] 29)).alloc (.cells #[.int .i64 0, .string ⟨#[]⟩, .int .i64 0, .slice none 0 0, .slice none 0 0] 29)).drew).heap.size := by simp
    generalize World.drew _ = w5 at kb1 kb2 hb0 hsz p0 p1 p2 p3 p4 hHeld ⊢
    have P0 := Lib.hid p0
    have P1 := Lib.hid p1
    have P2 := Lib.hid p2
    have P3 := Lib.hid p3
    have KB1 := Lib.hid kb1
    have KB2 := Lib.hid kb2
    have HB0 := Lib.hid hb0
    have HSZ := Lib.hid hsz
    clear p0 p1 p2 p3 p4 kb1 kb2 hb0 hsz
    refine pure_ (i := 0) (N := some 9) (v := ?_) (a' := ?_) #[true, false, false, false, false, false, false, false, false, false, false, false, false] rfl rfl (by kernel_rfl) (fun _ _ _ h => h) (Or.inl ⟨by rfl, ?_⟩) ?_ ?_
    rotate_left
    · intro w'
      go_simp
      with_reducible rfl
    rotate_left
    · simp only [Act.put, List.setIfInBounds_toArray, List.set_cons_zero, List.set_cons_succ, i64_w, i32_w]
      rfl
    refine pure_ (i := 2) (N := some 11) (v := ?_) (a' := ?_) #[true, false, true, false, false, false, false, false, false, false, false, false, false] rfl rfl (by kernel_rfl) (fun _ _ _ h => h) (Or.inl ⟨by rfl, ?_⟩) ?_ ?_
    rotate_left
    · intro w'
      go_simp
      with_reducible rfl
    rotate_left
    · simp only [Act.put, List.setIfInBounds_toArray, List.set_cons_zero, List.set_cons_succ, i64_w, i32_w]
      rfl
    refine pure_ (i := 4) (N := some 13) (v := ?_) (a' := ?_) #[true, false, true, false, true, false, false, false, false, false, false, false, false] rfl rfl (by kernel_rfl) (fun _ _ _ h => h) (Or.inl ⟨by rfl, ?_⟩) ?_ ?_
    rotate_left
    · intro w'
      go_simp
      with_reducible rfl
    rotate_left
    · simp only [Act.put, List.setIfInBounds_toArray, List.set_cons_zero, List.set_cons_succ, i64_w, i32_w]
      rfl
    refine pure_ (i := 7) (N := some 16) (v := ?_) (a' := ?_) #[true, false, true, false, true, false, false, true, false, false, false, false, false] rfl rfl (by kernel_rfl) (fun _ _ _ h => h) (Or.inl ⟨by rfl, ?_⟩) ?_ ?_
    rotate_left
    · intro w'
      go_simp
      with_reducible rfl
    rotate_left
    · simp only [Act.put, List.setIfInBounds_toArray, List.set_cons_zero, List.set_cons_succ, i64_w, i32_w]
      rfl
    refine take_ (i := 1) (N := some 10) (v := ?_) (a' := ?_) #[true, true, true, false, true, false, false, true, false, false, false, false, false] rfl rfl (by kernel_rfl) (fun _ _ _ h => h) (Or.inl ⟨by rfl, ?_⟩) hHeld ?_ ?_
    rotate_left
    · rintro w' ⟨s0, s1, s2, s3⟩
      go_simp
      with_reducible rfl
    rotate_left
    · simp only [Act.put, List.setIfInBounds_toArray, List.set_cons_zero, List.set_cons_succ, i64_w, i32_w]
      rfl
    refine take_ (i := 3) (N := some 12) (v := ?_) (a' := ?_) #[true, true, true, true, true, false, false, true, false, false, false, false, false] rfl rfl (by kernel_rfl) (fun _ _ _ h => h) (Or.inl ⟨by rfl, ?_⟩) hHeld ?_ ?_
    rotate_left
    · rintro w' ⟨s0, s1, s2, s3⟩
      go_simp
      with_reducible rfl
    rotate_left
    · simp only [Act.put, List.setIfInBounds_toArray, List.set_cons_zero, List.set_cons_succ, i64_w, i32_w]
      rfl
    refine take_ (i := 5) (N := some 14) (v := ?_) (a' := ?_) #[true, true, true, true, true, true, false, true, false, false, false, false, false] rfl rfl (by kernel_rfl) (fun _ _ _ h => h) (Or.inl ⟨by rfl, ?_⟩) hHeld ?_ ?_
    rotate_left
    · rintro w' ⟨s0, s1, s2, s3⟩
      go_simp
      with_reducible rfl
    rotate_left
    · simp only [Act.put, List.setIfInBounds_toArray, List.set_cons_zero, List.set_cons_succ, i64_w, i32_w]
      rfl
    refine take_ (i := 8) (N := some 17) (v := ?_) (a' := ?_) #[true, true, true, true, true, true, false, true, true, false, false, false, false] rfl rfl (by kernel_rfl) (fun _ _ _ h => h) (Or.inl ⟨by rfl, ?_⟩) hHeld ?_ ?_
    rotate_left
    · rintro w' ⟨s0, s1, s2, s3⟩
      go_simp
      with_reducible rfl
    rotate_left
    · simp only [Act.put, List.setIfInBounds_toArray, List.set_cons_zero, List.set_cons_succ, i64_w, i32_w]
      rfl
    refine join_ (σ := Value × Value × Nat) 1 #[true, true, true, true, true, true, true, true, true, true, true, true, false] (fun s_ => [(15, s_.1), (18, s_.2.1), (7, .pointer (some ⟨s_.2.2, 0, none⟩)), (19, .agg #[.int .i64 x.f0, .string x.f1, .int .i64 x.f2, s_.2.1, .slice none 0 0])]) (fun s_ w' => Below w5.heap.size w5 w' ∧ kI.R 3 w' w5.heap.size (fun _ => True) s_.2.1 x.f3 ∧ w'.heap[s_.2.2]? = some (.cells #[.int .i64 0, .string ⟨#[]⟩, .int .i64 0, .slice none 0 0, .slice none 0 0] 29) ∧ w5.heap.size ≤ s_.2.2) ?_ ?_
    rotate_left
    · intro hCont
      refine two_ (i := 6) (j := 11) (Ni := some 15) (Nj := some 7) #[true, true, true, true, true, true, true, true, true, false, false, false, false] #[true, true, true, true, true, true, false, true, true, false, false, true, false] rfl rfl rfl rfl (by kernel_rfl) (by decide) (by decide) (fun K hK => ?_) (fun K hK => ?_)
      · refine Kd.R_lit_step (Kd.int .i64) _ 3 ?hg (N := 15) ?hd (xs := ([] : List Int)) (inner := []) (ok := fun _ => True) (okp := fun _ => True) ?hr ?hp (fun _ hk => hk) trivial (Below.refl _ _) (Nat.le_refl _) (by simp) ?_; (case hd => rfl); (case hg => rfl); (case hr => first | (go_simp; done) | (go_simp; rfl)); (case hp => exact (Reps.none _ _))
        intro v0 w6 ho0 hb6 hg6 hn6
        clear hg6 hn6
        refine hK.out _ _ ⟨ck0 hb6 P0.out, ck0 hb6 P1.out, ck0 hb6 P2.out, ck0 hb6 P3.out⟩ (fun hHeld => ?_)
        clear hK K
        refine norm_ (a' := ?_) ?_ ?_
        rotate_left
        · show Act.put _ (some 15) _ = _
          simp only [Act.put, List.setIfInBounds_toArray, List.set_cons_zero, List.set_cons_succ, i64_w, i32_w]
          rfl
        refine two_ (i := 9) (j := 11) (Ni := some 18) (Nj := some 7) #[true, true, true, true, true, true, true, true, true, true, false, false, false] #[true, true, true, true, true, true, true, true, true, false, false, true, false] rfl rfl rfl rfl (by kernel_rfl) (by decide) (by decide) (fun K hK => ?_) (fun K hK => ?_)
        · refine Kd.R_append_rows_step (Kd.int .i64) (w0 := w5) w5.heap.size (by rfl) (.tmp 15) (.tmp 17) 22 3 (.int .i64 0) 8 rfl Try.underlying22 infoI rfl (by decide) (by omega) v0 [] x.f3 _ _ _ (fun _ => True) (fun _ => False) rfl rfl ho0 (Kd.C_below HI.out.g3 (below_step HB0.out hb6)) (fun _ _ h => h) (fun _ h => h.elim) (fun _ _ => trivial) hb6 hb6.size (by have := HT.out; have := scTot x; simp; omega) ?_
          intro v3 w7 ho3 hb7 hg7 hat7
          rw [List.nil_append] at ho3
          obtain ⟨D3, e3, rfl⟩ := Kd.R_slice ho3
          refine hK.out _ _ ⟨ck0 hb7 P0.out, ck0 hb7 P1.out, ck0 hb7 P2.out, ck0 hb7 P3.out⟩ (fun hHeld => ?_)
          clear hK K
          refine norm_ (a' := ?_) ?_ ?_
          rotate_left
          · show Act.put _ (some 18) _ = _
            simp only [Act.put, List.setIfInBounds_toArray, List.set_cons_zero, List.set_cons_succ, i64_w, i32_w]
            rfl
          refine pure_ (i := 10) (N := some 19) (v := ?_) (a' := ?_) #[true, true, true, true, true, true, true, true, true, true, true, false, false] rfl rfl (by kernel_rfl) (fun _ _ _ h => h) (Or.inl ⟨by rfl, ?_⟩) ?_ ?_
          rotate_left
          · intro w'
            go_simp
            with_reducible rfl
          rotate_left
          · simp only [Act.put, List.setIfInBounds_toArray, List.set_cons_zero, List.set_cons_succ, i64_w, i32_w]
            rfl
          refine one_ (i := 11) (N := some 7) #[true, true, true, true, true, true, true, true, true, true, true, true, false] rfl rfl (by kernel_rfl) (by decide) (fun K hK => ?_)
          refine box_step ?hg (N := 7) ?hd (cs := #[.int .i64 0, .string ⟨#[]⟩, .int .i64 0, .slice none 0 0, .slice none 0 0]) (t := 29) ?hr ?_; (case hd => rfl); (case hg => rfl); (case hr => first | (go_simp; done) | (go_simp; rfl))
          intro g3 hg w8 hbox hb8
          have hb9 := below_step hb7 hb8
          refine hK.out _ _ ⟨ck0 hb9 P0.out, ck0 hb9 P1.out, ck0 hb9 P2.out, ck0 hb9 P3.out⟩ (fun hHeld => ?_)
          clear hK K
          refine norm_ (a' := ?_) ?_ ?_
          rotate_left
          · show Act.put _ (some 7) _ = _
            simp only [Act.put, List.setIfInBounds_toArray, List.set_cons_zero, List.set_cons_succ, i64_w, i32_w]
            rfl
          exact norm_ (by simp only [putAll, Act.put, List.setIfInBounds_toArray, List.set_cons_zero, List.set_cons_succ]) (hCont (v0, .slice D3 x.f3.length e3, g3) _ ⟨hb9, Kd.R_below ho3 hb8, hbox, hg ▸ hb7.size⟩)
        · refine box_step ?hg (N := 7) ?hd (cs := #[.int .i64 0, .string ⟨#[]⟩, .int .i64 0, .slice none 0 0, .slice none 0 0]) (t := 29) ?hr ?_; (case hd => rfl); (case hg => rfl); (case hr => first | (go_simp; done) | (go_simp; rfl))
          intro g3 hg w7 hbox hb7
          have hb8 := below_step hb6 hb7
          have ho8 := Kd.R_below ho0 hb7
          have hne := Kd.R_ne ho8 hbox (by decide)
          refine hK.out _ _ ⟨ck0 hb8 P0.out, ck0 hb8 P1.out, ck0 hb8 P2.out, ck0 hb8 P3.out⟩ (fun hHeld => ?_)
          clear hK K
          refine norm_ (a' := ?_) ?_ ?_
          rotate_left
          · show Act.put _ (some 7) _ = _
            simp only [Act.put, List.setIfInBounds_toArray, List.set_cons_zero, List.set_cons_succ, i64_w, i32_w]
            rfl
          refine one_ (i := 9) (N := some 18) #[true, true, true, true, true, true, true, true, true, true, false, true, false] rfl rfl (by kernel_rfl) (by decide) (fun K hK => ?_)
          refine Kd.R_append_rows_step (Kd.int .i64) (w0 := w5) w5.heap.size (by rfl) (.tmp 15) (.tmp 17) 22 3 (.int .i64 0) 8 rfl Try.underlying22 infoI rfl (by decide) (by omega) v0 [] x.f3 _ _ _ (fun _ => True) (fun _ => False) rfl rfl ho8 (Kd.C_below HI.out.g3 (below_step HB0.out hb8)) (fun _ _ h => h) (fun _ h => h.elim) (fun _ _ => trivial) hb8 hb8.size (by have := HT.out; have := scTot x; simp; omega) ?_
          intro v3 w9 ho3 hb9 hg9 hat9
          rw [List.nil_append] at ho3
          obtain ⟨D3, e3, rfl⟩ := Kd.R_slice ho3
          refine hK.out _ _ ⟨ck0 hb9 P0.out, ck0 hb9 P1.out, ck0 hb9 P2.out, ck0 hb9 P3.out⟩ (fun hHeld => ?_)
          clear hK K
          refine norm_ (a' := ?_) ?_ ?_
          rotate_left
          · show Act.put _ (some 18) _ = _
            simp only [Act.put, List.setIfInBounds_toArray, List.set_cons_zero, List.set_cons_succ, i64_w, i32_w]
            rfl
          refine pure_ (i := 10) (N := some 19) (v := ?_) (a' := ?_) #[true, true, true, true, true, true, true, true, true, true, true, true, false] rfl rfl (by kernel_rfl) (fun _ _ _ h => h) (Or.inl ⟨by rfl, ?_⟩) ?_ ?_
          rotate_left
          · intro w'
            go_simp
            with_reducible rfl
          rotate_left
          · simp only [Act.put, List.setIfInBounds_toArray, List.set_cons_zero, List.set_cons_succ, i64_w, i32_w]
            rfl
          exact norm_ (by simp only [putAll, Act.put, List.setIfInBounds_toArray, List.set_cons_zero, List.set_cons_succ]) (hCont (v0, .slice D3 x.f3.length e3, g3) _ ⟨hb9, ho3, blk_grown hbox hg9 hne, hg ▸ hb6.size⟩)
      · refine box_step ?hg (N := 7) ?hd (cs := #[.int .i64 0, .string ⟨#[]⟩, .int .i64 0, .slice none 0 0, .slice none 0 0]) (t := 29) ?hr ?_; (case hd => rfl); (case hg => rfl); (case hr => first | (go_simp; done) | (go_simp; rfl))
        intro g3 hg w6 hbox hb6
        refine hK.out _ _ ⟨ck0 hb6 P0.out, ck0 hb6 P1.out, ck0 hb6 P2.out, ck0 hb6 P3.out⟩ (fun hHeld => ?_)
        clear hK K
        refine norm_ (a' := ?_) ?_ ?_
        rotate_left
        · show Act.put _ (some 7) _ = _
          simp only [Act.put, List.setIfInBounds_toArray, List.set_cons_zero, List.set_cons_succ, i64_w, i32_w]
          rfl
        refine one_ (i := 6) (N := some 15) #[true, true, true, true, true, true, true, true, true, false, false, true, false] rfl rfl (by kernel_rfl) (by decide) (fun K hK => ?_)
        refine Kd.R_lit_step (Kd.int .i64) _ 3 ?hg (N := 15) ?hd (xs := ([] : List Int)) (inner := []) (ok := fun _ => True) (okp := fun _ => True) ?hr ?hp (fun _ hk => hk) trivial (Below.refl _ _) (Nat.le_refl _) (by simp) ?_; (case hd => rfl); (case hg => rfl); (case hr => first | (go_simp; done) | (go_simp; rfl)); (case hp => exact (Reps.none _ _))
        intro v0 w7 ho0 hb7 hg7 hn7
        have hbox7 := blk_below hbox hb7
        have hb8 := below_step hb6 hb7
        have ho8 := Kd.R_lower ho0 hb6.size
        have hne := Kd.R_ne ho0 hbox7 (by decide)
        refine hK.out _ _ ⟨ck0 hb8 P0.out, ck0 hb8 P1.out, ck0 hb8 P2.out, ck0 hb8 P3.out⟩ (fun hHeld => ?_)
        clear hK K
        refine norm_ (a' := ?_) ?_ ?_
        rotate_left
        · show Act.put _ (some 15) _ = _
          simp only [Act.put, List.setIfInBounds_toArray, List.set_cons_zero, List.set_cons_succ, i64_w, i32_w]
          rfl
        refine one_ (i := 9) (N := some 18) #[true, true, true, true, true, true, true, true, true, true, false, true, false] rfl rfl (by kernel_rfl) (by decide) (fun K hK => ?_)
        refine Kd.R_append_rows_step (Kd.int .i64) (w0 := w5) w5.heap.size (by rfl) (.tmp 15) (.tmp 17) 22 3 (.int .i64 0) 8 rfl Try.underlying22 infoI rfl (by decide) (by omega) v0 [] x.f3 _ _ _ (fun _ => True) (fun _ => False) rfl rfl ho8 (Kd.C_below HI.out.g3 (below_step HB0.out hb8)) (fun _ _ h => h) (fun _ h => h.elim) (fun _ _ => trivial) hb8 hb8.size (by have := HT.out; have := scTot x; simp; omega) ?_
        intro v3 w9 ho3 hb9 hg9 hat9
        rw [List.nil_append] at ho3
        obtain ⟨D3, e3, rfl⟩ := Kd.R_slice ho3
        refine hK.out _ _ ⟨ck0 hb9 P0.out, ck0 hb9 P1.out, ck0 hb9 P2.out, ck0 hb9 P3.out⟩ (fun hHeld => ?_)
        clear hK K
        refine norm_ (a' := ?_) ?_ ?_
        rotate_left
        · show Act.put _ (some 18) _ = _
          simp only [Act.put, List.setIfInBounds_toArray, List.set_cons_zero, List.set_cons_succ, i64_w, i32_w]
          rfl
        refine pure_ (i := 10) (N := some 19) (v := ?_) (a' := ?_) #[true, true, true, true, true, true, true, true, true, true, true, true, false] rfl rfl (by kernel_rfl) (fun _ _ _ h => h) (Or.inl ⟨by rfl, ?_⟩) ?_ ?_
        rotate_left
        · intro w'
          go_simp
          with_reducible rfl
        rotate_left
        · simp only [Act.put, List.setIfInBounds_toArray, List.set_cons_zero, List.set_cons_succ, i64_w, i32_w]
          rfl
        exact norm_ (by simp only [putAll, Act.put, List.setIfInBounds_toArray, List.set_cons_zero, List.set_cons_succ]) (hCont (v0, .slice D3 x.f3.length e3, g3) _ ⟨hb9, ho3, blk_grown hbox7 hg9 hne, Nat.le_of_eq hg.symm⟩)
    rintro ⟨v0, v3, g3⟩ wz ⟨hbz, ho3, hbox, hg3⟩
    dsimp only at ho3 hbox hg3
    have hHeld : True := trivial
    refine norm_ (a' := ?_) ?_ ?_
    rotate_left
    · simp only [putAll, Act.put, List.setIfInBounds_toArray, List.set_cons_zero, List.set_cons_succ]
      rfl
    have K1z := blk_below KB1.out hbz
    have hl1 := blk_lt KB1.out
    have hne3 := Kd.R_ne ho3 hbox (by decide)
    obtain ⟨D3, e3, rfl⟩ := Kd.R_slice ho3
    obtain ⟨st1, st2, st3⟩ := st5 hbox (.int .i64 x.f0) (.string x.f1) (.int .i64 x.f2) (.slice D3 x.f3.length e3) (.slice none 0 0)
    have hS5 := fm_cells ((st2 w.heap.size (by omega)).trans K1z)
    have HCP := Lib.hid (Cp.start (w := w) KB1.out KB2.out HB0.out HSZ.out hbz ho3 hg3 hne3 st1 st2 (st3 _ _ hbz hg3))
    obtain ⟨z0, z1, z2, z3, z4⟩ := fm_cells hbox
    obtain ⟨f0, f1, f2, f3, f4⟩ := fm_free hbox
    clear hbz ho3 hbox hg3 K1z hl1 hne3 st1 st2 st3 KB1 KB2 HB0 HSZ P0 P1 P2 P3
    refine one_ (i := 12) (N := none) #[true, true, true, true, true, true, true, true, true, true, true, true, true] rfl rfl (by kernel_rfl) (by decide) (fun K hK => ?_)
    refine skip_ (w1 := ?_) (by rfl) rfl ?_ ?_
    rotate_left
    · go_simp
      rfl
    refine hK.out _ _ ⟨hS5.1, hS5.2.1, hS5.2.2.1, hS5.2.2.2.1⟩ (fun hHeld => ?_)
    clear hK K z0 z1 z2 z3 z4 f0 f1 f2 f3 f4 hS5
    refine done_ (by kernel_rfl) ?_
    generalize World.setCell _ _ _ = wq at HCP hHeld ⊢
    clear hHeld
    obtain ⟨l0, l1, l2, l3, l4⟩ := fm_cells HCP.out.fr.k1
    go_upto_if 22 with fail
    (try simp only [Act.put, List.setIfInBounds_toArray, List.set_cons_zero, List.set_cons_succ])
    go_cut [] (fun wc => ∃ (sc : List Int) (D3 : Option Addr) (e3 : Nat), Aside0 (sc = if x.f0 = 1 then wayS n way x.f3 else []) ∧ Aside0 (Cp w (.cells #[.int .i64 x.f0, .string x.f1, .int .i64 x.f2, .slice A3 x.f3.length c3, .slice A4 x.f4.length c4] 29) (.cells #[.int .i64 0, .string ⟨#[]⟩, .int .i64 0, .slice none 0 0, .slice none 0 0] 29) g3 x.f0 x.f1 x.f2 sc [] (.slice D3 sc.length e3) (.slice none 0 0) [] [] wc))
    case first =>
      by_cases h1 : x.f0 = 1
      · have t1 : (x.f0 == 1) = true := beq_iff_eq.mpr h1
        obtain ⟨s2, s1⟩ := HA.out.at h1
        have HL := Lib.hid s1
        have HS := Lib.hid s2
        have HX1 := Lib.hid h1
        clear h1 s1 s2
        (first | rw [t1] | skip)
        by_cases w2 : way = 2
        · have t2 : (way == 2) = true := beq_iff_eq.mpr w2
          have HY2 := Lib.hid w2
          clear w2
          go_wp2_with fail
          refine (l2Take_any x.f3 n A3 c3 _ (Kd.C_below HI.out.g3 HCP.out.fr.b) HI.out.l3 (by have := HL.out; omega)).mono ?_
          rintro e w5 ⟨v0, rfl, hr5, hb5⟩
          obtain ⟨D5, e5, rfl⟩ := Kd.R_slice hr5
          have HR5 := Aside0.mk hr5
          have HB5 := Lib.hid hb5
          have z3 := (fm_cells (HCP.out.later HB5.out).fr.k3).2.2.2.1
          have f3 := (fm_free (HCP.out.later HB5.out).fr.k3).2.2.2.1
          clear hr5 hb5
          go_wp2
          go_meet
          case rel => exact ⟨_, _, _, ⟨by rw [if_pos HX1.out, wayS, if_pos HY2.out]⟩, ⟨HCP.out.rescope HB5.out HR5.out⟩⟩
        · have t2 : (way == 2) = false := beq_eq_false_iff_ne.mpr w2
          have HY2 := Lib.hid w2
          clear w2
          by_cases w1 : way = 1
          · have t3 : (way == 1) = true := beq_iff_eq.mpr w1
            have HY1 := Lib.hid w1
            clear w1
            go_wp2_with fail
            refine (l2Has_any x.f3 n A3 c3 _ (Kd.C_below HI.out.g3 HCP.out.fr.b) HI.out.l3).mono ?_
            rintro e w4 ⟨rfl, hb4⟩
            have HB4 := Lib.hid hb4
            have hq4 := HCP.out.later hb4
            obtain ⟨m0, m1, m2, m3, m4⟩ := fm_cells hq4.fr.k1
            clear hb4 hq4
            by_cases hm : n ∈ x.f3
            · rw [decide_eq_true hm]
              have HM := Lib.hid hm
              clear hm
              go_wp2_with fail
              refine (l2Take_any x.f3 n A3 c3 _ (Kd.C_below HI.out.g3 (HCP.out.later HB4.out).fr.b) HI.out.l3 (by have := HL.out; omega)).mono ?_
              rintro e w5 ⟨v0, rfl, hr5, hb5⟩
              obtain ⟨D5, e5, rfl⟩ := Kd.R_slice hr5
              have HR5 := Aside0.mk (Kd.R_lower hr5 HB4.out.size)
              have HB5 := Lib.hid (below_step HB4.out hb5)
              have z3 := (fm_cells (HCP.out.later HB5.out).fr.k3).2.2.2.1
              have f3 := (fm_free (HCP.out.later HB5.out).fr.k3).2.2.2.1
              clear hr5 hb5
              go_wp2
              go_meet
              case rel => exact ⟨_, _, _, ⟨by rw [if_pos HX1.out, wayS, if_neg HY2.out, if_pos HY1.out, flipS, if_pos HM.out]⟩, ⟨HCP.out.rescope HB5.out HR5.out⟩⟩
            · rw [decide_eq_false hm]
              have HM := Lib.hid hm
              clear hm
              go_wp2_with fail
              refine (l2Put_any x.f3 n A3 c3 _ (Kd.C_below HI.out.g3 (HCP.out.later HB4.out).fr.b) HI.out.l3 HS.out (by have := HL.out; omega)).mono ?_
              rintro e w5 ⟨v0, rfl, hr5, hb5⟩
              obtain ⟨D5, e5, rfl⟩ := Kd.R_slice hr5
              have HR5 := Aside0.mk (Kd.R_lower hr5 HB4.out.size)
              have HB5 := Lib.hid (below_step HB4.out hb5)
              have z3 := (fm_cells (HCP.out.later HB5.out).fr.k3).2.2.2.1
              have f3 := (fm_free (HCP.out.later HB5.out).fr.k3).2.2.2.1
              clear hr5 hb5
              go_wp2
              go_meet
              case rel => exact ⟨_, _, _, ⟨by rw [if_pos HX1.out, wayS, if_neg HY2.out, if_pos HY1.out, flipS, if_neg HM.out]⟩, ⟨HCP.out.rescope HB5.out HR5.out⟩⟩
          · have t3 : (way == 1) = false := beq_eq_false_iff_ne.mpr w1
            have HY1 := Lib.hid w1
            clear w1
            go_wp2_with fail
            refine (l2Put_any x.f3 n A3 c3 _ (Kd.C_below HI.out.g3 HCP.out.fr.b) HI.out.l3 HS.out (by have := HL.out; omega)).mono ?_
            rintro e w5 ⟨v0, rfl, hr5, hb5⟩
            obtain ⟨D5, e5, rfl⟩ := Kd.R_slice hr5
            have HR5 := Aside0.mk hr5
            have HB5 := Lib.hid hb5
            have z3 := (fm_cells (HCP.out.later HB5.out).fr.k3).2.2.2.1
            have f3 := (fm_free (HCP.out.later HB5.out).fr.k3).2.2.2.1
            clear hr5 hb5
            go_wp2
            go_meet
            case rel => exact ⟨_, _, _, ⟨by rw [if_pos HX1.out, wayS, if_neg HY2.out, if_neg HY1.out]⟩, ⟨HCP.out.rescope HB5.out HR5.out⟩⟩
      · have t1 : (x.f0 == 1) = false := beq_eq_false_iff_ne.mpr h1
        have HX1 := Lib.hid h1
        have HX3 := Lib.hid (HA.out.no h1)
        clear h1
        (first | rw [t1] | skip)
        go_wp2
        go_meet
        case rel => exact ⟨_, _, _, ⟨by rw [if_neg HX1.out]; exact HX3.out⟩, ⟨HCP.out⟩⟩
    case rest =>
      obtain ⟨sc, D3, e3, HSC, HCP⟩ := hcut
      try go_wp2_with fail
      go_loopg [8] x.f4.length (fun kq v4 w' => ∃ i : Nat, i ≤ x.f4.length ∧ x.f4.length - i ≤ kq ∧ v4 = .int .i64 i ∧ Aside0 (∃ v inner fp, Cp w (.cells #[.int .i64 x.f0, .string x.f1, .int .i64 x.f2, .slice A3 x.f3.length c3, .slice A4 x.f4.length c4] 29) (.cells #[.int .i64 0, .string ⟨#[]⟩, .int .i64 0, .slice none 0 0, .slice none 0 0] 29) g3 x.f0 x.f1 x.f2 sc ((x.f4.take i).map (Fm.chS (wayS n way))) (.slice D3 sc.length e3) v inner fp w'))
      case atStart => exact ⟨0, Nat.zero_le _, by omega, rfl, ⟨⟨.slice none 0 0, [], [], by simpa using HCP.out⟩⟩⟩
      case round =>
        obtain ⟨i, hi, hg, rfl, HO⟩ := hrel
        by_cases hlt : i < x.f4.length
        · obtain ⟨v, inner, fp, hC⟩ := HO.out
          obtain ⟨p0, p1, p2, p3, p4⟩ := fm_cells hC.fr.k1
          obtain ⟨ad, G3, m3, G4, m4, e, g0, g1, g2, g3_, g4, hk⟩ := kid_at HI.out.g4 i hlt
          subst e
          have hkt := totL_mem (List.getElem_mem hlt)
          have hxt := HT.out
          rw [Fm.tot_eq] at hxt
          have r1 : (0 : Int) ≤ (i : Int) := by omega
          have r2 : (i : Int) < (x.f4.length : Int) := by omega
          have hlen := len_totL x.f4
          have HKT := Lib.hid (show x.f4[i].tot ≤ 1000000000 by omega)
          have HLN := Lib.hid (show x.f4.length ≤ 1000000000 by omega)
          have HK := Lib.hid hk
          have HC := Lib.hid hC
          have SK := Lib.hid (fun (W : World) (hf : Fr w (.cells #[.int .i64 x.f0, .string x.f1, .int .i64 x.f2, .slice A3 x.f3.length c3, .slice (some ad) x.f4.length c4] 29) (.cells #[.int .i64 0, .string ⟨#[]⟩, .int .i64 0, .slice none 0 0, .slice none 0 0] 29) g3 #[.int .i64 x.f0, .string x.f1, .int .i64 x.f2, (.slice D3 sc.length e3), v] W) => (⟨(fm_cells hf.k1).2.2.2.2, (fm_cells hf.k3).2.2.2.2, ck0 hf.b g0, ck0 hf.b g1, ck0 hf.b g2, ck0 hf.b g3_, ck0 hf.b g4⟩ : (fun w' => w'.cell? ⟨w.heap.size, 4, none⟩ = some (.slice (some ad) x.f4.length c4) ∧ w'.cell? ⟨g3, 4, none⟩ = some v ∧ w'.cell? (ad.add (i * 5)) = some (.int .i64 x.f4[i].f0) ∧ w'.cell? ⟨(ad.add (i * 5)).block, (ad.add (i * 5)).off + 1, none⟩ = some (.string x.f4[i].f1) ∧ w'.cell? ⟨(ad.add (i * 5)).block, (ad.add (i * 5)).off + 2, none⟩ = some (.int .i64 x.f4[i].f2) ∧ w'.cell? ⟨(ad.add (i * 5)).block, (ad.add (i * 5)).off + 3, none⟩ = some (.slice G3 x.f4[i].f3.length m3) ∧ w'.cell? ⟨(ad.add (i * 5)).block, (ad.add (i * 5)).off + 4, none⟩ = some (.slice G4 x.f4[i].f4.length m4)) W))
          clear hC hk p0 p1 p2 p3 hkt hxt hlen g0 g1 g2 g3_ g4
          go_wp2_with fail
          have HD := Lib.hid (HC.out.later (below_drew (Below.refl _ _)))
          refine start_ (n := 14) (S := fun w' => w'.cell? ⟨w.heap.size, 4, none⟩ = some (.slice (some ad) x.f4.length c4) ∧ w'.cell? ⟨g3, 4, none⟩ = some v ∧ w'.cell? (ad.add (i * 5)) = some (.int .i64 x.f4[i].f0) ∧ w'.cell? ⟨(ad.add (i * 5)).block, (ad.add (i * 5)).off + 1, none⟩ = some (.string x.f4[i].f1) ∧ w'.cell? ⟨(ad.add (i * 5)).block, (ad.add (i * 5)).off + 2, none⟩ = some (.int .i64 x.f4[i].f2) ∧ w'.cell? ⟨(ad.add (i * 5)).block, (ad.add (i * 5)).off + 3, none⟩ = some (.slice G3 x.f4[i].f3.length m3) ∧ w'.cell? ⟨(ad.add (i * 5)).block, (ad.add (i * 5)).off + 4, none⟩ = some (.slice G4 x.f4[i].f4.length m4)) (ds := [13]) #[false, false, false, false, false, false, false, false, false, false, false, false, false, false] (by kernel_rfl) rfl rfl (SK.out _ HD.out.fr) (fun hHeld => ?_)
          clear p4
          generalize wr.drew = wd at HD hHeld ⊢
          refine pure_ (i := 0) (N := some 52) (v := ?_) (a' := ?_) #[true, false, false, false, false, false, false, false, false, false, false, false, false, false] rfl rfl (by kernel_rfl) (fun _ _ _ h => h) (Or.inl ⟨by rfl, ?_⟩) ?_ ?_
          rotate_left
          · intro w'
            go_simp
            with_reducible rfl
          rotate_left
          · simp only [Act.put, List.setIfInBounds_toArray, List.set_cons_zero, List.set_cons_succ, i64_w, i32_w]
            rfl
          refine pure_ (i := 2) (N := some 54) (v := ?_) (a' := ?_) #[true, false, true, false, false, false, false, false, false, false, false, false, false, false] rfl rfl (by kernel_rfl) (fun _ _ _ h => h) (Or.inl ⟨by rfl, ?_⟩) ?_ ?_
          rotate_left
          · intro w'
            go_simp
            with_reducible rfl
          rotate_left
          · simp only [Act.put, List.setIfInBounds_toArray, List.set_cons_zero, List.set_cons_succ, i64_w, i32_w]
            rfl
          refine pure_ (i := 4) (N := some 56) (v := ?_) (a' := ?_) #[true, false, true, false, true, false, false, false, false, false, false, false, false, false] rfl rfl (by kernel_rfl) (fun _ _ _ h => h) (Or.inl ⟨by rfl, ?_⟩) ?_ ?_
          rotate_left
          · intro w'
            go_simp
            with_reducible rfl
          rotate_left
          · simp only [Act.put, List.setIfInBounds_toArray, List.set_cons_zero, List.set_cons_succ, i64_w, i32_w]
            rfl
          refine pure_ (i := 7) (N := some 59) (v := ?_) (a' := ?_) #[true, false, true, false, true, false, false, true, false, false, false, false, false, false] rfl rfl (by kernel_rfl) (fun _ _ _ h => h) (Or.inl ⟨by rfl, ?_⟩) ?_ ?_
          rotate_left
          · intro w'
            go_simp
            with_reducible rfl
          rotate_left
          · simp only [Act.put, List.setIfInBounds_toArray, List.set_cons_zero, List.set_cons_succ, i64_w, i32_w]
            rfl
          refine pure_ (i := 8) (N := some 60) (v := ?_) (a' := ?_) #[true, false, true, false, true, false, false, true, true, false, false, false, false, false] rfl rfl (by kernel_rfl) (fun _ _ _ h => h) (Or.inl ⟨by rfl, ?_⟩) ?_ ?_
          rotate_left
          · intro w'
            go_simp
            with_reducible rfl
          rotate_left
          · simp only [Act.put, List.setIfInBounds_toArray, List.set_cons_zero, List.set_cons_succ, i64_w, i32_w]
            rfl
          refine take_ (i := 1) (N := some 53) (v := ?_) (a' := ?_) #[true, true, true, false, true, false, false, true, true, false, false, false, false, false] rfl rfl (by kernel_rfl) (fun _ _ _ h => h) (Or.inl ⟨by rfl, ?_⟩) hHeld ?_ ?_
          rotate_left
          · rintro w' ⟨s0, s1, s2, s3, s4, s5, s6⟩
            go_simp
            with_reducible rfl
          rotate_left
          · simp only [Act.put, List.setIfInBounds_toArray, List.set_cons_zero, List.set_cons_succ, i64_w, i32_w]
            rfl
          refine take_ (i := 3) (N := some 55) (v := ?_) (a' := ?_) #[true, true, true, true, true, false, false, true, true, false, false, false, false, false] rfl rfl (by kernel_rfl) (fun _ _ _ h => h) (Or.inl ⟨by rfl, ?_⟩) hHeld ?_ ?_
          rotate_left
          · rintro w' ⟨s0, s1, s2, s3, s4, s5, s6⟩
            go_simp
            with_reducible rfl
          rotate_left
          · simp only [Act.put, List.setIfInBounds_toArray, List.set_cons_zero, List.set_cons_succ, i64_w, i32_w]
            rfl
          refine pure_ (i := 5) (N := some 57) (v := ?_) (a' := ?_) #[true, true, true, true, true, true, false, true, true, false, false, false, false, false] rfl rfl (by kernel_rfl) (fun _ _ _ h => h) (Or.inl ⟨by rfl, ?_⟩) ?_ ?_
          rotate_left
          · intro w'
            go_simp
            with_reducible rfl
          rotate_left
          · simp only [Act.put, List.setIfInBounds_toArray, List.set_cons_zero, List.set_cons_succ, i64_w, i32_w]
            rfl
          refine take_ (i := 6) (N := some 58) (v := ?_) (a' := ?_) #[true, true, true, true, true, true, true, true, true, false, false, false, false, false] rfl rfl (by kernel_rfl) (fun _ _ _ h => h) (Or.inl ⟨by rfl, ?_⟩) hHeld ?_ ?_
          rotate_left
          · rintro w' ⟨s0, s1, s2, s3, s4, s5, s6⟩
            go_simp
            with_reducible rfl
          rotate_left
          · simp only [Act.put, List.setIfInBounds_toArray, List.set_cons_zero, List.set_cons_succ, i64_w, i32_w]
            rfl
          refine one_ (i := 9) (N := some 61) #[true, true, true, true, true, true, true, true, true, true, false, false, false, false] rfl rfl (by kernel_rfl) (by decide) (fun K hK => ?_)
          refine goes_ Try.func74 (by kernel_rfl) rfl #[.agg #[.int .i64 x.f4[i].f0, .string x.f4[i].f1, .int .i64 x.f4[i].f2, .slice G3 x.f4[i].f3.length m3, .slice G4 x.f4[i].f4.length m4], .int .i64 n, .int .i64 way] (by rfl) rfl rfl (by (try simp only [List.map_toArray, List.map_cons, List.map_nil]); first | done | rfl) ?_
          refine (IH.out x.f4[i] (List.getElem_mem hlt) (HA.out.kid _ (List.getElem_mem hlt)) G3 m3 G4 m4 wd (HK.out.below HD.out.fr.b) HKT.out).mono ?_
          rintro e w7 ⟨u3, u4, rfl, hn, hb7⟩
          refine ⟨_, rfl, ?_⟩
          obtain ⟨J3, q3, J4, q4, rfl, rfl⟩ : ∃ J3 q3 J4 q4, u3 = .slice J3 (x.f4[i].chS (wayS n way)).f3.length q3 ∧ u4 = .slice J4 (x.f4[i].chS (wayS n way)).f4.length q4 := by
            obtain ⟨fk, hk2, _⟩ := hn
            obtain ⟨J3, q3, J4, q4, e3, e4, _⟩ := hk2.In
            exact ⟨J3, q3, J4, q4, e3, e4⟩
          have H7 := Lib.hid (HD.out.later hb7)
          have HN := Lib.hid hn
          have HLT := Lib.hid (And.intro HD.out.lt HD.out.fr.lt)
          clear hn hb7
          refine hK.out _ _ (SK.out _ H7.out.fr) (fun hHeld => ?_)
          clear hK K
          refine norm_ (a' := ?_) ?_ ?_
          rotate_left
          · show Act.put _ (some 61) _ = _
            simp only [Act.put, List.setIfInBounds_toArray, List.set_cons_zero, List.set_cons_succ, i64_w, i32_w]
            rfl
          refine one_ (i := 10) (N := some 62) #[true, true, true, true, true, true, true, true, true, true, true, false, false, false] rfl rfl (by kernel_rfl) (by decide) (fun K hK => ?_)
          refine value_ (w1 := ?_) (v := ?_) (by rfl) rfl ?_ ?_
          rotate_left 2
          · go_simp
            constructor
            · rfl
            · rfl
          refine hK.out _ _ (SK.out _ (H7.out.fr.later (below_new _ _))) (fun hHeld => ?_)
          clear hK K
          refine norm_ (a' := ?_) ?_ ?_
          rotate_left
          · show Act.put _ (some 62) _ = _
            simp only [Act.put, List.setIfInBounds_toArray, List.set_cons_zero, List.set_cons_succ, i64_w, i32_w]
            rfl
          refine one_ (i := 11) (N := some 63) #[true, true, true, true, true, true, true, true, true, true, true, true, false, false] rfl rfl (by kernel_rfl) (by decide) (fun K hK => ?_)
          have hl0 : ((x.f4.take i).map (Fm.chS (wayS n way))).length = i := by simp; omega
          refine step_append_cells (w0 := w) (W := w7) w.heap.size (by rfl) (.tmp 53) (.tmp 62) 27 29 (.agg #[.int .i64 0, .string ⟨#[]⟩, .int .i64 0, .slice none 0 0, .slice none 0 0]) 5 80 rfl Try.underlying27 infoF rfl (by decide) (by omega) v ((x.f4.take i).map (Fm.chS (wayS n way))).length inner [.int .i64 (x.f4[i].chS (wayS n way)).f0, .string (x.f4[i].chS (wayS n way)).f1, .int .i64 (x.f4[i].chS (wayS n way)).f2, .slice J3 (x.f4[i].chS (wayS n way)).f3.length q3, .slice J4 (x.f4[i].chS (wayS n way)).f4.length q4] rfl rfl rfl (by simp [Value.oneCell']) (own_base_ H7.out.o4 (fun b hb => by have := (H7.out.ge b (by simp [obs_mem, hb])).1; omega)) H7.out.fr.b H7.out.fr.b.size (by have := HLN.out; rw [hl0]; omega) ?_
          intro v' w8 ho hb8 hg8 hat8
          obtain ⟨fp', hC8⟩ := H7.out.more HLT.out.1 HLT.out.2.2 HLT.out.2.1 HN.out (own_weaken ho (Nat.zero_le _)) hg8 hat8
          have hf8 := H7.out.fr.grown hg8 (fun c hc => H7.out.ge c (by simp [obs_mem, hc]))
          have hv' : ∃ A c, v' = .slice A (((x.f4.take i).map (Fm.chS (wayS n way))).length + 1) c := by
            rcases ho with ⟨_, ⟨rfl, h0⟩ | ⟨g, cap, cur, rfl, _⟩⟩
            · exact absurd h0 (by omega)
            · exact ⟨_, _, rfl⟩
          rw [hl0] at hv'
          obtain ⟨A', c', rfl⟩ := hv'
          have H8 := Lib.hid hf8
          have HC8 := Lib.hid hC8
          clear ho hb8 hg8 hat8 hf8 hC8
          refine hK.out _ _ (SK.out _ H8.out) (fun hHeld => ?_)
          clear hK K
          refine norm_ (a' := ?_) ?_ ?_
          rotate_left
          · show Act.put _ (some 63) _ = _
            simp only [Act.put, List.setIfInBounds_toArray, List.set_cons_zero, List.set_cons_succ, i64_w, i32_w]
            rfl
          refine pure_ (i := 12) (N := some 64) (v := ?_) (a' := ?_) #[true, true, true, true, true, true, true, true, true, true, true, true, true, false] rfl rfl (by kernel_rfl) (fun _ _ _ h => h) (Or.inl ⟨by rfl, ?_⟩) ?_ ?_
          rotate_left
          · intro w'
            go_simp
            with_reducible rfl
          rotate_left
          · simp only [Act.put, List.setIfInBounds_toArray, List.set_cons_zero, List.set_cons_succ, i64_w, i32_w]
            rfl
          refine last_ (i := 13) (N := none) #[true, true, true, true, true, true, true, true, true, true, true, true, true, true] rfl rfl (by kernel_rfl) (by decide) (fun K hK => ?_)
          have z4 := (fm_cells H8.out.k3).2.2.2.2
          have f4 := (fm_free H8.out.k3).2.2.2.2
          refine skip_ (w1 := ?_) (by rfl) rfl ?_ ?_
          rotate_left
          · go_simp
            rfl
          refine hK.out _ _ ?_
          clear hK K z4 f4
          refine done_ (by kernel_rfl) ?_
          have HX := Lib.hid (show (x.f4.take i).map (Fm.chS (wayS n way)) ++ [x.f4[i].chS (wayS n way)] = (x.f4.take (i + 1)).map (Fm.chS (wayS n way)) from by rw [List.take_succ_eq_append_getElem hlt, List.map_append]; rfl)
          rw [HX.out] at HC8
          try go_wp2
          go_roundg (x.f4.length - (i + 1))
          case measure => omega
          case rel => exact ⟨i + 1, by omega, Nat.le_refl _, by go_num, ⟨⟨_, _, _, HC8.out⟩⟩⟩
        · obtain rfl : i = x.f4.length := by omega
          obtain ⟨v, inner, fp, hC⟩ := HO.out
          rw [List.take_length] at hC
          obtain ⟨A4', c4', e4', -, -⟩ := hC.tr.C hC.o4
          rw [show ((x.f4).map (Fm.chS (wayS n way))).length = x.f4.length from by simp] at e4'
          subst e4'
          obtain ⟨p0, p1, p2, p3, p4⟩ := fm_cells hC.fr.k3
          obtain ⟨y0, y1, y2, y3, y4⟩ := fm_cells hC.fr.k1
          obtain ⟨z0, z1, z2, z3, z4⟩ := fm_cells hC.fr.k2
          obtain ⟨f0, f1, f2, f3, f4⟩ := fm_free hC.fr.k2
          have hn1 : g3 ≠ w.heap.size + 1 := by have := hC.fr.h3; omega
          have hn2 : w.heap.size + 1 ≠ g3 := fun e => hn1 e.symm
          obtain ⟨st1, st2, st3⟩ := st5 hC.fr.k2 (.int .i64 x.f0) (.string x.f1) (.int .i64 x.f2) (.slice D3 sc.length e3) (.slice A4' x.f4.length c4')
          have HNF := hC.newF (st2)
          have HN := Lib.hid HNF
          have HB := Lib.hid (st3 _ _ hC.fr.b (by omega))
          clear hC HO st1 st2 st3 HNF
          go_wp2_with fail
          refine bodyPost_ret (v := .agg #[.int .i64 x.f0, .string x.f1, .int .i64 x.f2, (.slice D3 sc.length e3), .slice A4' x.f4.length c4']) (by simp [results, Try.results74, go_sem, z0, z1, z2, z3, z4]) rfl ?_
          rw [Fm.chS_eq, ← HSC.out]
          exact ⟨_, _, by simp, HN.out, HB.out⟩
end Go.Proofs.Ytnaefjilcabkoaa
end
section
namespace Go.Proofs.Ytnaefjilcabkoaa
open Go.RowKit Go.Proofs.YtnaefjilcabkoaaW.PrintWords Go.Proofs.YtnaefjilcabkoaaW.PrintLast Go.Proofs.YtnaefjilcabkoaaW.PrintMore
set_option linter.unusedVariables false
set_option linter.unusedSimpArgs false
theorem RetF.T {w : World} {x : Fm} {e : Ending} {w' : World} (h : RetF w x e w') : ∃ v3 v4, e = .returned (.agg #[.int .i64 x.f0, .string x.f1, .int .i64 x.f2, v3, v4]) ∧ tellsNew.T w.heap.size w' x v3 v4 ∧ Below w.heap.size w w' := h
set_option maxHeartbeats 1000000 in
theorem formOr_any (x : Fm) (A3 : Option Addr) (c3 : Nat) (A4 : Option Addr) (c4 : Nat) (w : World) (hin : FmIn w x A3 c3 A4 c4) (ht : x.tot ≤ 1048576) : Calls Try.prog 77 #[.agg #[.int .i64 x.f0, .string x.f1, .int .i64 x.f2, .slice A3 x.f3.length c3, .slice A4 x.f4.length c4]] w (RetT tellsNew w (orN x)) := by
  have HI := Lib.hid hin
  have HT0 := Lib.hid ht
  clear hin ht
  go_enter Try.func77, Try.ntmps77
  go_wp2_with fail
  refine (implValid_any x A3 c3 A4 c4 _ (HI.out.below (below_step (below_new _ _) (below_new _ _))) HT0.out).mono ?_
  rintro e w1 ⟨rfl, hb⟩
  obtain ⟨k0, k1, b1⟩ := two_new hb
  have K0 := Lib.hid k0
  have K1 := Lib.hid k1
  have B1 := Lib.hid b1
  clear hb k0 k1 b1
  by_cases hx : FmOk x
  · rw [← pB_yes hx]
    have HX := Lib.hid hx
    clear hx
    obtain ⟨p0, p1, p2, p3, p4⟩ := fm_cells K0.out
    go_wp2_with fail
    clear p0 p1 p2 p3 p4
    refine (copyForm_any x A3 c3 A4 c4 _ (HI.out.below B1.out) (by have := HT0.out; omega)).mono ?_
    intro e w2 hr
    obtain ⟨v3, v4, rfl, hT, hb2⟩ := hr.T
    obtain ⟨D3, e3, D4, e4, rfl, rfl⟩ := tellsNew.form hT
    obtain ⟨q0, q1, q2, q3, q4⟩ := fm_cells (blk_below K1.out hb2)
    obtain ⟨f0, f1, f2, f3, f4⟩ := fm_free (blk_below K1.out hb2)
    have HT := Lib.hid hT
    have HB := Lib.hid (below_step B1.out hb2)
    have HL := Lib.hid (blk_lt K1.out)
    clear hT hb2 hr
    go_wp2_with fail
    refine bodyPost_ret (v := .tuple #[.agg #[.int .i64 x.f0, .string x.f1, .int .i64 x.f2, .slice D3 x.f3.length e3, .slice D4 x.f4.length e4], .bool true]) (by simp [results, Try.results77, go_sem, q0, q1, q2, q3, q4, f0, f1, f2, f3, f4]) rfl ?_
    rw [orN_yes HX.out]
    refine ⟨_, _, rfl, tellsNew.low B1.out.size (tellsNew.move HT.out (fun b hb => ?_)), ?_⟩
    · have := HL.out
      repeat rw [Below.heap_setCell _ _ _ b (by show b ≠ w.heap.size + 1; omega)]
    · repeat (refine below_set ?_ (by omega))
      exact HB.out
  · rw [← pB_no hx]
    have HX := Lib.hid hx
    clear hx
    obtain ⟨q0, q1, q2, q3, q4⟩ := fm_cells K1.out
    obtain ⟨f0, f1, f2, f3, f4⟩ := fm_free K1.out
    have HB9 := Lib.hid B1.out
    go_wp2_with fail
    refine bodyPost_ret (v := .tuple #[.agg #[.int .i64 0, .string ⟨#[]⟩, .int .i64 0, .slice none 0 0, .slice none 0 0], .bool false]) (by simp [results, Try.results77, go_sem, q0, q1, q2, q3, q4, f0, f1, f2, f3, f4]) rfl ?_
    rw [orN_no HX.out]
    refine ⟨_, _, rfl, ⟨[], trz _, by simp, by simp⟩, ?_⟩
    repeat (refine below_set ?_ (by omega))
    exact HB9.out
end Go.Proofs.Ytnaefjilcabkoaa
end
section
namespace Go.Proofs.Ytnaefjilcabkoaa
open Go.RowKit Go.Proofs.YtnaefjilcabkoaaW.PrintWords Go.Proofs.YtnaefjilcabkoaaW.PrintLast Go.Proofs.YtnaefjilcabkoaaW.PrintMore
set_option linter.unusedVariables false
set_option linter.unusedSimpArgs false
@[reducible] def fmV (x : Fm) (A3 : Option Addr) (c3 : Nat) (A4 : Option Addr) (c4 : Nat) : Array Value := #[.int .i64 x.f0, .string x.f1, .int .i64 x.f2, .slice A3 x.f3.length c3, .slice A4 x.f4.length c4]
/-- A form is handed back. -/
def GetF (w : World) (x : Fm) (e : Ending) (w' : World) : Prop := ∃ A3 c3 A4 c4, e = .returned (.agg #[.int .i64 x.f0, .string x.f1, .int .i64 x.f2, .slice A3 x.f3.length c3, .slice A4 x.f4.length c4]) ∧ FmIn w' x A3 c3 A4 c4 ∧ Below w.heap.size w w'
/-- A form and another value are handed back. -/
def GetFV (w : World) (x : Fm) (v : Value) (e : Ending) (w' : World) : Prop := ∃ A3 c3 A4 c4, e = .returned (.tuple #[.agg #[.int .i64 x.f0, .string x.f1, .int .i64 x.f2, .slice A3 x.f3.length c3, .slice A4 x.f4.length c4], v]) ∧ FmIn w' x A3 c3 A4 c4 ∧ Below w.heap.size w w'
end Go.Proofs.Ytnaefjilcabkoaa
end
section
namespace Go.Proofs.Ytnaefjilcabkoaa
open Go.RowKit Go.Proofs.YtnaefjilcabkoaaW.PrintWords Go.Proofs.YtnaefjilcabkoaaW.PrintLast Go.Proofs.YtnaefjilcabkoaaW.PrintMore
set_option linter.unusedVariables false
set_option linter.unusedSimpArgs false
theorem NewF.In {B : Nat} {w : World} {x : Fm} {v3 v4 : Value} (h : NewF B w x v3 v4) : ∃ A3 c3 A4 c4, v3 = .slice A3 x.f3.length c3 ∧ v4 = .slice A4 x.f4.length c4 ∧ FmIn w x A3 c3 A4 c4 := by
  obtain ⟨fp, ht, _, _⟩ := h
  exact ht.In
end Go.Proofs.Ytnaefjilcabkoaa
end
section
namespace Go.Proofs.Ytnaefjilcabkoaa
open Go.RowKit Go.Proofs.YtnaefjilcabkoaaW.PrintWords Go.Proofs.YtnaefjilcabkoaaW.PrintLast Go.Proofs.YtnaefjilcabkoaaW.PrintMore
set_option linter.unusedVariables false
set_option linter.unusedSimpArgs false
def IsName (x : Fm) : Prop := x.f0 = 1 ∧ FmOk x
theorem isName_any (x : Fm) (A3 : Option Addr) (c3 : Nat) (A4 : Option Addr) (c4 : Nat) (w : World) (hin : FmIn w x A3 c3 A4 c4) (ht : x.tot ≤ 1048576) :
    Calls Try.prog 76 #[.agg #[.int .i64 x.f0, .string x.f1, .int .i64 x.f2, .slice A3 x.f3.length c3, .slice A4 x.f4.length c4]] w (Ret w (.bool (pB (IsName x)))) := by
  have HC := Lib.hid (implValid_any x A3 c3 A4 c4 _ (hin.below (below_new w (.cells #[.int .i64 x.f0, .string x.f1, .int .i64 x.f2, .slice A3 x.f3.length c3, .slice A4 x.f4.length c4] 29))) ht)
  have HB := Lib.hid (below_new w (.cells #[.int .i64 x.f0, .string x.f1, .int .i64 x.f2, .slice A3 x.f3.length c3, .slice A4 x.f4.length c4] 29))
  clear hin ht
  by_cases k1 : x.f0 = 1
  · have e1 : (x.f0 == 1) = true := by simpa using k1
    have K1 := Lib.hid k1
    clear k1
    go_enter Try.func76, Try.ntmps76
    go_wp2_with fail
    refine HC.out.mono ?_
    rintro e w1 ⟨rfl, hb1⟩
    generalize hE : pB (FmOk x) = E
    have HE := Lib.hid hE
    have HB1 := Lib.hid (below_step HB.out hb1)
    clear hE hb1
    go_wp2_with fail
    go_ret
    exact ⟨ret_b (pB_of (by rw [← HE.out, pB_iff]; exact ⟨fun h => ⟨K1.out, h⟩, fun h => h.2⟩)), HB1.out⟩
  · have e1 : (x.f0 == 1) = false := by simpa using k1
    have K1 := Lib.hid k1
    clear k1 HC
    go_enter Try.func76, Try.ntmps76
    go_wp2_with fail
    go_ret
    exact ⟨ret_b (pB_no (fun h => K1.out h.1)), HB.out⟩
def SmName (x y : Fm) : Prop := FmOk x ∧ FmOk y ∧ x.f0 = 1 ∧ x = y
end Go.Proofs.Ytnaefjilcabkoaa
end
section
namespace Go.Proofs.Ytnaefjilcabkoaa
open Go.RowKit Go.Proofs.YtnaefjilcabkoaaW.PrintWords Go.Proofs.YtnaefjilcabkoaaW.PrintLast Go.Proofs.YtnaefjilcabkoaaW.PrintMore
set_option linter.unusedVariables false
set_option linter.unusedSimpArgs false
/-- The form x reads in w, and in every world in which the blocks from lo on stand as_ in w. -/
structure FmS (lo : Nat) (w : World) (x : Fm) (A3 : Option Addr) (c3 : Nat) (A4 : Option Addr) (c4 : Nat) : Prop where mk ::
  out : ∀ W : World, (∀ b, lo ≤ b → b < w.heap.size → W.heap[b]? = w.heap[b]?) → FmIn W x A3 c3 A4 c4
theorem FmS.now {lo : Nat} {w : World} {x : Fm} {A3 : Option Addr} {c3 : Nat} {A4 : Option Addr} {c4 : Nat} (h : FmS lo w x A3 c3 A4 c4) : FmIn w x A3 c3 A4 c4 := h.out w (fun _ _ _ => rfl)
theorem FmS.move {lo : Nat} {w W : World} {x : Fm} {A3 : Option Addr} {c3 : Nat} {A4 : Option Addr} {c4 : Nat} (h : FmS lo w x A3 c3 A4 c4) (hs : w.heap.size ≤ W.heap.size) (hm : ∀ b, lo ≤ b → b < w.heap.size → W.heap[b]? = w.heap[b]?) : FmS lo W x A3 c3 A4 c4 :=
  ⟨fun W' h' => h.out W' (fun b h1 h2 => (h' b h1 (Nat.lt_of_lt_of_le h2 hs)).trans (hm b h1 h2))⟩
theorem FmS.later {lo : Nat} {w W : World} {x : Fm} {A3 : Option Addr} {c3 : Nat} {A4 : Option Addr} {c4 : Nat} (h : FmS lo w x A3 c3 A4 c4) (hb : Below w.heap.size w W) : FmS lo W x A3 c3 A4 c4 := h.move hb.size (fun b _ hlt => hb.block b hlt)
theorem FmS.keep {lo g : Nat} {w W : World} {x : Fm} {A3 : Option Addr} {c3 : Nat} {A4 : Option Addr} {c4 : Nat} (h : FmS lo w x A3 c3 A4 c4) (hk : KeepBut w W g none) (hg : g < lo) : FmS lo W x A3 c3 A4 c4 := h.move hk.1 (fun b h1 hlt => hk.2 b hlt (by omega) (by simp))
theorem FmS.low {lo lo' : Nat} {w : World} {x : Fm} {A3 : Option Addr} {c3 : Nat} {A4 : Option Addr} {c4 : Nat} (h : FmS lo w x A3 c3 A4 c4) (hl : lo' ≤ lo) : FmS lo' w x A3 c3 A4 c4 := ⟨fun W hW => h.out W (fun b h1 h2 => hW b (Nat.le_trans hl h1) h2)⟩
/-- A form and another value are handed back; the form lies in new memory. -/
def GetFS (w : World) (x : Fm) (v : Value) (e : Ending) (w' : World) : Prop := ∃ A3 c3 A4 c4, e = .returned (.tuple #[.agg #[.int .i64 x.f0, .string x.f1, .int .i64 x.f2, .slice A3 x.f3.length c3, .slice A4 x.f4.length c4], v]) ∧ FmS w.heap.size w' x A3 c3 A4 c4 ∧ Below w.heap.size w w'
theorem GetFS.V {w : World} {x : Fm} {v : Value} {e : Ending} {w' : World} (h : GetFS w x v e w') : GetFV w x v e w' := by
  obtain ⟨A3, c3, A4, c4, he, hs, hb⟩ := h
  exact ⟨A3, c3, A4, c4, he, hs.now, hb⟩
theorem NewF.toS {B : Nat} {w : World} {x : Fm} {v3 v4 : Value} (h : NewF B w x v3 v4) : ∃ A3 c3 A4 c4, v3 = .slice A3 x.f3.length c3 ∧ v4 = .slice A4 x.f4.length c4 ∧ FmS B w x A3 c3 A4 c4 := by
  obtain ⟨fp, ht, _, hge⟩ := h
  obtain ⟨A3, c3, A4, c4, rfl, rfl, _⟩ := ht.In
  refine ⟨A3, c3, A4, c4, rfl, rfl, ⟨fun W hW => ?_⟩⟩
  obtain ⟨B3, d3, B4, d4, e3, e4, hi⟩ := (ht.move (w1 := W) x (fun b hb => hW b (hge b hb) (ht.lt x b hb))).In
  injection e3 with a1 _ a2
  injection e4 with a3 _ a4
  subst a1 a2 a3 a4
  exact hi
end Go.Proofs.Ytnaefjilcabkoaa
end
section
namespace Go.Proofs.Ytnaefjilcabkoaa
open Go.RowKit Go.Proofs.YtnaefjilcabkoaaW.PrintWords Go.Proofs.YtnaefjilcabkoaaW.PrintLast Go.Proofs.YtnaefjilcabkoaaW.PrintMore
set_option linter.unusedVariables false
set_option linter.unusedSimpArgs false
/-- A set with all numbers of a list. -/
abbrev addL (ns : List Int) (l : List Int) : List Int := ns.foldl putS l
theorem addL_srt : ∀ (ns : List Int) {l : List Int}, Srt l → Srt (addL ns l)
  | [], _, h => h
  | x :: xs, _, h => addL_srt xs (srt_putS h x)
theorem addL_len : ∀ (ns l : List Int), (addL ns l).length ≤ l.length + ns.length
  | [], l => by simp
  | x :: xs, l => by
    have h1 := addL_len xs (putS l x)
    have h2 := len_putS_le l x
    show (addL xs (putS l x)).length ≤ _
    simp only [List.length_cons]
    omega
theorem addL_next (ns : List Int) (i : Nat) (h : i < ns.length) (l : List Int) : addL (ns.take (i + 1)) l = putS (addL (ns.take i) l) ns[i] := by
  show (ns.take (i + 1)).foldl putS l = _
  rw [List.take_succ_eq_append_getElem h, List.foldl_append]; rfl
noncomputable def dressR (nm x : Fm) : Fm × Bool := if pB (FmOk x ∧ IsName nm) then orN (x.chS (addL nm.f3)) else (zFm, false)
theorem dressR_in {nm x : Fm} (h : FmOk x) (h2 : IsName nm) : dressR nm x = orN (x.chS (addL nm.f3)) := by unfold dressR; rw [if_pos (pB_iff.2 ⟨h, h2⟩)]
theorem dressR_out {nm x : Fm} (h : ¬ (FmOk x ∧ IsName nm)) : dressR nm x = (zFm, false) := by unfold dressR; rw [if_neg (fun k => h (pB_iff.1 k))]
theorem isName_sc {nm : Fm} (h : IsName nm) : ScOk nm.f3 := (fmOk_sc h.2).at h.1
theorem dress_tot {x nm : Fm} (hx : FmOk x) (hn : IsName nm) (i : Nat) : (x.chS (addL (nm.f3.take i))).tot ≤ 30000 := by
  have h0 := (isName_sc hn).1
  have h1 := tot_chS hx.1 (addL (nm.f3.take i)) 50 ((fmOk_sc hx).imp (fun y hy => by have := addL_len (nm.f3.take i) y.f3; have := hy.1; have h9 : (nm.f3.take i).length ≤ nm.f3.length := (by rw [List.length_take]; exact Nat.min_le_right _ _); omega))
  have h2 : (13 + 50) * x.size ≤ 63 * 400 := Nat.mul_le_mul (by omega) hx.2
  omega
set_option maxHeartbeats 1000000 in
/-- DressLike's closure as_ a function value: the name lies in block g of w0. -/
noncomputable def fvDress (nm : Fm) (B3 : Option Addr) (Bc3 : Nat) (B4 : Option Addr) (Bc4 : Nat) (g : Nat) (w0 : World) (hg : w0.heap[g]? = some (.cells #[.int .i64 nm.f0, .string nm.f1, .int .i64 nm.f2, .slice B3 nm.f3.length Bc3, .slice B4 nm.f4.length Bc4] 29 (0, 0))) (hin : FmIn w0 nm B3 Bc3 B4 Bc4) : Fv where
  g := 79
  lb := #[.pointer (some ⟨g, 0, none⟩)]
  w0 := w0
  f := fun l => gIf (Srt l ∧ l.length + nm.f3.length ≤ 1000000) (addL nm.f3 l)
  eg := enters_of Try.func79 (by kernel_rfl) rfl
  ok := by
    intro P1 u l r wb w hB hR h0 hf
    obtain ⟨p0, p1, p2, p3, p4⟩ := fm_cells (blk_below (blk_below hg h0) hB)
    obtain ⟨⟨hs, hl⟩, rfl⟩ := gIf_some hf
    have HS := Lib.hid hs
    have HC := Lib.hid (Kd.C_below hin.g3 h0)
    have HF := Lib.hid (And.intro (Kd.R_mono hR (fun b h => (.inl h : P1 b ∨ w.heap.size ≤ b))) hB)
    have hmx : nm.f3.length ≤ 1000000 := by omega
    obtain ⟨A, c, rfl⟩ := Kd.R_slice hR
    clear hR hB h0 hf hg hin hs
    show Calls Try.prog 79 #[.slice A l.length c, .pointer (some ⟨g, 0, none⟩)] w _
    go_enter Try.func79, Try.ntmps79
    go_wp2_with fail
    clear p0 p1 p2 p3 p4
    go_loopg [0, 5, 9] nm.f3.length (fun kq v0 v5 v9 w' => ∃ (i : Nat) (D : Option Addr) (d : Nat), i ≤ nm.f3.length ∧ nm.f3.length - i ≤ kq ∧ v9 = .int .i64 i ∧ v0 = .slice D (addL (nm.f3.take i) l).length d ∧ Aside0 (kI.R 3 w' wb.heap.size (fun b => P1 b ∨ w.heap.size ≤ b) (.slice D (addL (nm.f3.take i) l).length d) (addL (nm.f3.take i) l)) ∧ Aside0 (Below wb.heap.size wb w' ∧ Kept w w' (fun k => P1 k)))
    case atStart => exact ⟨0, A, c, Nat.zero_le _, by omega, rfl, rfl, ⟨HF.out.1⟩, ⟨HF.out.2, ⟨Nat.le_refl _, fun _ _ _ => rfl⟩⟩⟩
    case round =>
      obtain ⟨i, D, d, hi, hg, rfl, rfl, HR, HW⟩ := hrel
      by_cases hlt : i < nm.f3.length
      · obtain ⟨ad, e, g0⟩ := int_at (Kd.C_below HC.out HW.out.1) i hlt
        subst e
        have h1 := addL_len (nm.f3.take i) l
        have h2 : (nm.f3.take i).length ≤ nm.f3.length := by rw [List.length_take]; exact Nat.min_le_right _ _
        have HP := Lib.hid (withScope_any (addL (nm.f3.take i) l) nm.f3[i] _ wb.heap.size _ wr HR.out HW.out.1.size (addL_srt (nm.f3.take i) HS.out) (by omega))
        have HT := Lib.hid (addL_next nm.f3 i hlt l)
        clear h1 h2
        go_wp2_with fail
        clear g0
        refine HP.out.mono ?_
        rintro e w1 ⟨v', rfl, hR1, hM⟩
        rw [← HT.out] at hR1
        obtain ⟨E, e, rfl⟩ := Kd.R_slice hR1
        have hbs := Kd.R_base HR.out
        have HN := Lib.hid (show kI.R 3 w1 wb.heap.size (fun b => P1 b ∨ w.heap.size ≤ b) (.slice E (addL (nm.f3.take (i + 1)) l).length e) (addL (nm.f3.take (i + 1)) l) ∧ Below wb.heap.size wb w1 ∧ Kept w w1 (fun k => P1 k) from by
          refine ⟨Kd.R_mono hR1 (fun b hb => hb.elim id (fun h => .inr (Nat.le_trans HW.out.2.1 h))), HW.out.1.trans (hM.below HW.out.1.size (fun b hb => hbs b (obs_mem.1 hb))), ⟨Nat.le_trans HW.out.2.1 hM.b0.size, fun b hb hn => ?_⟩⟩
          rw [hM.keep b (Nat.lt_of_lt_of_le hb HW.out.2.1) (fun hm => by
            rcases HR.out.1 b (obs_mem.1 hm) with h | h
            · exact hn h
            · omega)]
          exact HW.out.2.2 b hb hn)
        clear hR1 hM hbs
        go_wp2_with fail
        go_roundg (nm.f3.length - (i + 1))
        case measure => omega
        case rel => exact ⟨i + 1, E, e, by omega, Nat.le_refl _, by go_num, rfl, ⟨HN.out.1⟩, ⟨HN.out.2⟩⟩
      · obtain rfl : i = nm.f3.length := by omega
        rw [List.take_length] at HR ⊢
        go_wp2_with fail
        go_ret
        exact ⟨_, rfl, HR.out, HW.out.1, HW.out.2⟩
theorem implDress_new (x nm : Fm) (A3 : Option Addr) (Ac3 : Nat) (A4 : Option Addr) (Ac4 : Nat) (B3 : Option Addr) (Bc3 : Nat) (B4 : Option Addr) (Bc4 : Nat) (w : World) (hx : FmIn w x A3 Ac3 A4 Ac4) (hn : FmIn w nm B3 Bc3 B4 Bc4) (tx : x.tot ≤ 1048576) (tn : nm.tot ≤ 1048576) :
    Calls Try.prog 31 #[.agg #[.int .i64 x.f0, .string x.f1, .int .i64 x.f2, .slice A3 x.f3.length Ac3, .slice A4 x.f4.length Ac4], .agg #[.int .i64 nm.f0, .string nm.f1, .int .i64 nm.f2, .slice B3 nm.f3.length Bc3, .slice B4 nm.f4.length Bc4]] w (RetT tellsNew w (dressR nm x)) := by
  have HX := Lib.hid hx
  have HN := Lib.hid hn
  have HT := Lib.hid (And.intro tx tn)
  clear hx hn tx tn
  go_enter Try.func31, Try.ntmps31
  go_wp2_with fail
  refine (implValid_any x A3 Ac3 A4 Ac4 _ (HX.out.below (below_step (below_step (below_new _ _) (below_new _ _)) (below_new _ _))) HT.out.1).mono ?_
  rintro e w1 ⟨rfl, hb⟩
  obtain ⟨k0, k1, k2, b1⟩ := three_new hb
  have K0 := Lib.hid k0
  have K1 := Lib.hid k1
  have K2 := Lib.hid k2
  have B1 := Lib.hid b1
  clear hb k0 k1 k2 b1
  by_cases hv : FmOk x
  · rw [← pB_yes hv]
    have HV := Lib.hid hv
    clear hv
    obtain ⟨p0, p1, p2, p3, p4⟩ := fm_cells K1.out
    go_wp2_with fail
    clear p0 p1 p2 p3 p4
    refine (isName_any nm B3 Bc3 B4 Bc4 w1 (HN.out.below B1.out) HT.out.2).mono ?_
    rintro e w2 ⟨rfl, hb2⟩
    replace K0 := Lib.hid (blk_below K0.out hb2)
    replace K1 := Lib.hid (blk_below K1.out hb2)
    replace K2 := Lib.hid (blk_below K2.out hb2)
    have B2 := Lib.hid (below_step B1.out hb2)
    clear hb2
    by_cases hnm : IsName nm
    · rw [← pB_yes hnm]
      have HM := Lib.hid hnm
      clear hnm
      have hs := fmOk_sc HV.out
      have h24 := (isName_sc HM.out).1
      have HD := Lib.hid (show Calls Try.prog 78 #[.agg #[.int .i64 x.f0, .string x.f1, .int .i64 x.f2, .slice A3 x.f3.length Ac3, .slice A4 x.f4.length Ac4], .func (.func 79) #[] #[.pointer (some ⟨w.heap.size + 1, 0, none⟩)]] w2 (RetF w2 (x.chS (addL nm.f3))) from
        dressed_any (fvDress nm B3 Bc3 B4 Bc4 (w.heap.size + 1) w2 K1.out (HN.out.below B2.out)) (addL nm.f3) x (hs.imp (fun y hy => gIf_yes ⟨(scOk_iff.1 hy).2.1, by have := hy.1; omega⟩ _)) A3 Ac3 A4 Ac4 w2 (HX.out.below B2.out) (by have := HT.out; omega) (Below.refl _ _))
      obtain ⟨p0, p1, p2, p3, p4⟩ := fm_cells K0.out
      clear hs h24
      go_wp2_with fail
      clear p0 p1 p2 p3 p4
      refine HD.out.mono ?_
      intro e w3 hr
      obtain ⟨v3, v4, rfl, hT, hb3⟩ := hr.T
      obtain ⟨D3, e3, D4, e4, rfl, rfl⟩ := tellsNew.form hT
      have h1 := dress_tot HV.out HM.out nm.f3.length
      rw [List.take_length] at h1
      have hin3 : FmIn w3 (x.chS (addL nm.f3)) D3 e3 D4 e4 := by
        obtain ⟨fp, htr, _, _⟩ := hT
        obtain ⟨G3, m3, G4, m4, q1, q2, hin⟩ := htr.In
        injection q1 with a1 _ a2
        injection q2 with a3 _ a4
        subst a1 a2 a3 a4
        exact hin
      have K23 := Lib.hid (blk_below K2.out hb3)
      have B3 := Lib.hid (below_step B2.out hb3)
      have HF := Lib.hid (formOr_any (x.chS (addL nm.f3)) D3 e3 D4 e4 w3 hin3 (by omega))
      have HL := Lib.hid (blk_lt K2.out)
      have HLW := Lib.hid (show w2.heap.size ≤ w3.heap.size from hb3.size)
      clear h1 hin3 hT hb3 hr
      go_wp2_with fail
      refine HF.out.mono ?_
      rintro e w4 ⟨v3, v4, rfl, hT, hb4⟩
      obtain ⟨E3, k3, E4, k4, rfl, rfl⟩ := tellsNew.form hT
      obtain ⟨q0, q1, q2, q3, q4⟩ := fm_cells (blk_below K23.out hb4)
      obtain ⟨f0, f1, f2, f3, f4⟩ := fm_free (blk_below K23.out hb4)
      have HTN := Lib.hid hT
      have HB := Lib.hid (below_step B3.out hb4)
      clear hT hb4
      go_wp2_with fail
      refine bodyPost_ret (v := .tuple #[.agg #[.int .i64 (orN (x.chS (addL nm.f3))).1.f0, .string (orN (x.chS (addL nm.f3))).1.f1, .int .i64 (orN (x.chS (addL nm.f3))).1.f2, .slice E3 (orN (x.chS (addL nm.f3))).1.f3.length k3, .slice E4 (orN (x.chS (addL nm.f3))).1.f4.length k4], .bool (orN (x.chS (addL nm.f3))).2]) (by simp [results, Try.results31, go_sem, q0, q1, q2, q3, q4, f0, f1, f2, f3, f4]) rfl ?_
      rw [dressR_in HV.out HM.out]
      refine ⟨_, _, rfl, tellsNew.low B3.out.size (tellsNew.move HTN.out (fun b hb => ?_)), ?_⟩
      · have := HL.out
        have := HLW.out
        repeat rw [Below.heap_setCell _ _ _ b (by show b ≠ w.heap.size + 1 + 1; omega)]
      · repeat (refine below_set ?_ (by omega))
        exact HB.out
    · rw [← pB_no hnm]
      have HM := Lib.hid hnm
      clear hnm
      obtain ⟨q0, q1, q2, q3, q4⟩ := fm_cells K2.out
      obtain ⟨f0, f1, f2, f3, f4⟩ := fm_free K2.out
      have HB9 := Lib.hid B2.out
      go_wp2_with fail
      refine bodyPost_ret (v := .tuple #[.agg #[.int .i64 0, .string ⟨#[]⟩, .int .i64 0, .slice none 0 0, .slice none 0 0], .bool false]) (by simp [results, Try.results31, go_sem, q0, q1, q2, q3, q4, f0, f1, f2, f3, f4]) rfl ?_
      rw [dressR_out (fun h => HM.out h.2)]
      refine ⟨_, _, rfl, ⟨[], trz _, by simp, by simp⟩, ?_⟩
      repeat (refine below_set ?_ (by omega))
      exact HB9.out
  · rw [← pB_no hv]
    have HV := Lib.hid hv
    clear hv
    obtain ⟨q0, q1, q2, q3, q4⟩ := fm_cells K2.out
    obtain ⟨f0, f1, f2, f3, f4⟩ := fm_free K2.out
    have HB9 := Lib.hid B1.out
    go_wp2_with fail
    refine bodyPost_ret (v := .tuple #[.agg #[.int .i64 0, .string ⟨#[]⟩, .int .i64 0, .slice none 0 0, .slice none 0 0], .bool false]) (by simp [results, Try.results31, go_sem, q0, q1, q2, q3, q4, f0, f1, f2, f3, f4]) rfl ?_
    rw [dressR_out (fun h => HV.out h.1)]
    refine ⟨_, _, rfl, ⟨[], trz _, by simp, by simp⟩, ?_⟩
    repeat (refine below_set ?_ (by omega))
    exact HB9.out
theorem srtF_add {ns : List Int} (hns : ns.length ≤ 50000) : ∀ x : Fm, (∃ m, IsOk m x) → SrtF (x.chS (addL ns)) := by
  intro x
  induction x using Fm.ind with
  | h x ih =>
    intro h
    rw [Fm.chS_eq]
    refine .mk _ (fun h1 => ?_) (fun h1 => if_neg h1) (fun k hk => ?_)
    · have h0 : x.f0 = 1 := h1
      have hs := scOk_iff.1 ((isOk_sc h.choose_spec).at h0).1
      show Srt (if x.f0 = 1 then addL ns x.f3 else []) ∧ (if x.f0 = 1 then addL ns x.f3 else []).length ≤ 100000
      rw [if_pos h0]
      have := addL_len ns x.f3
      exact ⟨addL_srt ns hs.2.1, by have := hs.1; omega⟩
    · obtain ⟨q, hq, rfl⟩ := List.mem_map.1 hk
      exact ih q hq (isOk_kids h q hq)
theorem add_zero {x : Fm} (h : FmOk x) : x.chS (addL []) = x := isOk_chS_id h.1
theorem add_step (x : Fm) {ns : List Int} {i : Nat} (h : i < ns.length) : (x.chS (addL (ns.take i))).chS (wayS ns[i] 0) = x.chS (addL (ns.take (i + 1))) := by
  rw [chS_chS]
  congr 1
  funext l
  rw [addL_next ns i h]
  simp [wayS]
/-- A form reads, and goes on to where the blocks of P stand as_ they stood. -/
structure FmP (P : Nat → Prop) (w : World) (x : Fm) (A3 : Option Addr) (c3 : Nat) (A4 : Option Addr) (c4 : Nat) : Prop where mk ::
  out : ∀ W : World, (∀ b, P b → b < w.heap.size → W.heap[b]? = w.heap[b]?) → FmIn W x A3 c3 A4 c4
theorem FmP.now {P : Nat → Prop} {w : World} {x : Fm} {A3 : Option Addr} {c3 : Nat} {A4 : Option Addr} {c4 : Nat} (h : FmP P w x A3 c3 A4 c4) : FmIn w x A3 c3 A4 c4 := h.out w (fun _ _ _ => rfl)
theorem FmP.move {P : Nat → Prop} {w W : World} {x : Fm} {A3 : Option Addr} {c3 : Nat} {A4 : Option Addr} {c4 : Nat} (h : FmP P w x A3 c3 A4 c4) (hs : w.heap.size ≤ W.heap.size) (hm : ∀ b, P b → b < w.heap.size → W.heap[b]? = w.heap[b]?) : FmP P W x A3 c3 A4 c4 :=
  ⟨fun W' h' => h.out W' (fun b h1 h2 => (h' b h1 (Nat.lt_of_lt_of_le h2 hs)).trans (hm b h1 h2))⟩
theorem FmP.later {P : Nat → Prop} {w W : World} {x : Fm} {A3 : Option Addr} {c3 : Nat} {A4 : Option Addr} {c4 : Nat} (h : FmP P w x A3 c3 A4 c4) (hb : Below w.heap.size w W) : FmP P W x A3 c3 A4 c4 := h.move hb.size (fun b _ hlt => hb.block b hlt)
theorem FmP.toS {P : Nat → Prop} {lo : Nat} {w : World} {x : Fm} {A3 : Option Addr} {c3 : Nat} {A4 : Option Addr} {c4 : Nat} (h : FmP P w x A3 c3 A4 c4) (hp : ∀ b, P b → lo ≤ b) : FmS lo w x A3 c3 A4 c4 :=
  ⟨fun W hW => h.out W (fun b h1 h2 => hW b (hp b h1) h2)⟩
theorem FmP.ofS {P : Nat → Prop} {lo : Nat} {w : World} {x : Fm} {A3 : Option Addr} {c3 : Nat} {A4 : Option Addr} {c4 : Nat} (h : FmS lo w x A3 c3 A4 c4) (hp : ∀ b, lo ≤ b → b < w.heap.size → P b) : FmP P w x A3 c3 A4 c4 :=
  ⟨fun W hW => h.out W (fun b h1 h2 => hW b (hp b h1 h2) h2)⟩
set_option maxHeartbeats 4000000 in
set_option maxRecDepth 100000 in
theorem specDress_S (x nm : Fm) (A3 : Option Addr) (Ac3 : Nat) (A4 : Option Addr) (Ac4 : Nat) (B3 : Option Addr) (Bc3 : Nat) (B4 : Option Addr) (Bc4 : Nat) (w : World) (hx : FmIn w x A3 Ac3 A4 Ac4) (hn : FmIn w nm B3 Bc3 B4 Bc4) (tx : x.tot ≤ 1048576) (tn : nm.tot ≤ 1048576) :
    Calls Try.prog 30 #[.agg #[.int .i64 x.f0, .string x.f1, .int .i64 x.f2, .slice A3 x.f3.length Ac3, .slice A4 x.f4.length Ac4], .agg #[.int .i64 nm.f0, .string nm.f1, .int .i64 nm.f2, .slice B3 nm.f3.length Bc3, .slice B4 nm.f4.length Bc4]] w (GetFS w (dressR nm x).1 (.bool (dressR nm x).2)) := by
  have HX := Lib.hid hx
  have HN := Lib.hid hn
  have HT := Lib.hid (And.intro tx tn)
  clear hx hn tx tn
  go_enter Try.func30, Try.ntmps30
  go_wp2_with fail
  refine (specValid_any x A3 Ac3 A4 Ac4 _ (HX.out.below (below_step (below_step (below_new _ _) (below_new _ _)) (below_new _ _))) (by have := HT.out; omega)).mono ?_
  rintro e w1 ⟨rfl, hb⟩
  obtain ⟨k0, k1, k2, b1⟩ := three_new hb
  have K0 := Lib.hid k0
  have K1 := Lib.hid k1
  have K2 := Lib.hid k2
  have B1 := Lib.hid b1
  clear hb k0 k1 k2 b1
  by_cases hv : FmOk x
  · rw [← pB_yes hv]
    have HV := Lib.hid hv
    clear hv
    obtain ⟨p0, p1, p2, p3, p4⟩ := fm_cells K1.out
    go_wp2_with fail
    clear p0 p1 p2 p3 p4
    refine (specValid_any nm B3 Bc3 B4 Bc4 w1 (HN.out.below B1.out) (by have := HT.out; omega)).mono ?_
    rintro e w2 ⟨rfl, hb2⟩
    replace K0 := Lib.hid (blk_below K0.out hb2)
    replace K1 := Lib.hid (blk_below K1.out hb2)
    replace K2 := Lib.hid (blk_below K2.out hb2)
    have B2 := Lib.hid (below_step B1.out hb2)
    clear hb2
    by_cases hnv : FmOk nm
    · rw [← pB_yes hnv]
      by_cases hk : nm.f0 = 1
      · have t1 : (nm.f0 == 1) = true := beq_iff_eq.mpr hk
        have t2 : (nm.f0 != 1) = false := by simpa using hk
        have HM := Lib.hid (show IsName nm from ⟨hk, hnv⟩)
        clear hk hnv
        obtain ⟨p0, p1, p2, p3, p4⟩ := fm_cells K1.out
        obtain ⟨s0, s1, s2, s3, s4⟩ := fm_cells K0.out
        go_wp2_with fail
        clear p0 p1 p2 p3 p4 s0 s1 s2 s3 s4
        refine (l1Copy_any x A3 Ac3 A4 Ac4 w2 (HX.out.below B2.out) (by have := HT.out; omega)).mono ?_
        rintro e w3 ⟨v3, v4, rfl, hnw, hb3⟩
        obtain ⟨Y_3, Y_c3, Y_4, Y_c4, rfl, rfl, hs3⟩ := hnw.toS
        have HS3 := Lib.hid hs3
        replace K1 := Lib.hid (blk_below K1.out hb3)
        have HL2 := Lib.hid (blk_lt K2.out)
        replace K2 := Lib.hid (blk_below K2.out hb3)
        have HLW := Lib.hid hb3.size
        have BW := Lib.hid (below_step B2.out hb3)
        have HN3 := Lib.hid (HN.out.below BW.out)
        have h24 := (isName_sc HM.out).1
        clear hnw hs3 hb3 t1 t2
        go_wp2_with fail
        go_loopg [7] nm.f3.length (fun kq v7 w' => ∃ (i : Nat) (Y_3 : Option Addr) (Y_c3 : Nat) (Y_4 : Option Addr) (Y_c4 : Nat), i ≤ nm.f3.length ∧ nm.f3.length - i ≤ kq ∧ v7 = .int .i64 i ∧ Aside0 (w'.heap[w3.heap.size]? = some (.cells #[.int .i64 (x.chS (addL (nm.f3.take i))).f0, .string (x.chS (addL (nm.f3.take i))).f1, .int .i64 (x.chS (addL (nm.f3.take i))).f2, .slice Y_3 (x.chS (addL (nm.f3.take i))).f3.length Y_c3, .slice Y_4 (x.chS (addL (nm.f3.take i))).f4.length Y_c4] 29 (0, 0))) ∧ Aside0 (FmP (fun b => w.heap.size + 3 ≤ b ∧ b ≠ w3.heap.size) w' (x.chS (addL (nm.f3.take i))) Y_3 Y_c3 Y_4 Y_c4) ∧ Aside0 (Below w3.heap.size w3 w'))
        case atStart => exact ⟨0, Y_3, Y_c3, Y_4, Y_c4, Nat.zero_le _, by omega, rfl, ⟨by rw [List.take_zero, add_zero HV.out]; exact blk_new _ _⟩, ⟨by rw [List.take_zero, add_zero HV.out]; exact (FmP.ofS HS3.out (fun b h1 h2 => ⟨by have := HL2.out; omega, by omega⟩)).later (below_new _ _)⟩, ⟨below_new _ _⟩⟩
        case round =>
          obtain ⟨i, Y_3, Y_c3, Y_4, Y_c4, hi, hg, rfl, HY, HK, HW⟩ := hrel
          by_cases hlt : i < nm.f3.length
          · have HADD := Lib.hid (add_step x hlt)
            have HSF := Lib.hid (srtF_add (ns := nm.f3.take i) (by rw [List.length_take]; omega) x ⟨40, HV.out.1⟩)
            have HTO := Lib.hid (dress_tot HV.out HM.out i)
            generalize x.chS (addL (nm.f3.take i)) = y at HY HK HADD HSF HTO
            obtain ⟨ad, e, g0⟩ := int_at (Kd.C_below HN3.out.g3 HW.out) i hlt
            subst e
            have HG := Lib.hid g0
            have HK1 := Lib.hid (blk_below K1.out HW.out)
            have HGY := Lib.hid (show w3.heap.size < wr.heap.size from blk_lt HY.out)
            obtain ⟨p0, p1, p2, p3, p4⟩ := fm_cells HK1.out
            go_wp2_with fail
            clear g0 p0 p1 p2 p3 p4
            have b := below_drew (Below.refl wr.heap.size wr)
            have HB := Lib.hid b
            clear b
            refine start_ (n := 8) (S := (fun W : World => W.cell? ⟨w3.heap.size, 0, none⟩ = some (.int .i64 y.f0) ∧ W.cell? ⟨w3.heap.size, 1, none⟩ = some (.string y.f1) ∧ W.cell? ⟨w3.heap.size, 2, none⟩ = some (.int .i64 y.f2) ∧ W.cell? ⟨w3.heap.size, 3, none⟩ = some (.slice Y_3 y.f3.length Y_c3) ∧ W.cell? ⟨w3.heap.size, 4, none⟩ = some (.slice Y_4 y.f4.length Y_c4) ∧ W.cell? ⟨w.heap.size + 1, 3, none⟩ = some (.slice (some ad) nm.f3.length Bc3) ∧ W.cell? (ad.add i) = some (.int .i64 nm.f3[i]))) (ds := [7]) #[false, false, false, false, false, false, false, false] (by kernel_rfl) rfl rfl ⟨(fm_cells (blk_below HY.out HB.out)).1, (fm_cells (blk_below HY.out HB.out)).2.1, (fm_cells (blk_below HY.out HB.out)).2.2.1, (fm_cells (blk_below HY.out HB.out)).2.2.2.1, (fm_cells (blk_below HY.out HB.out)).2.2.2.2, (fm_cells (blk_below HK1.out HB.out)).2.2.2.1, ck0 HB.out HG.out⟩ (fun hHeld => ?_)
            generalize World.drew _ = wd at HB hHeld ⊢
            refine take_ (i := 0) (N := some 31) (v := ?_) (a' := ?_) #[true, false, false, false, false, false, false, false] rfl rfl (by kernel_rfl) (fun _ _ _ h => h) (Or.inl ⟨by rfl, ?_⟩) hHeld ?_ ?_
            rotate_left
            · rintro w' ⟨s0, s1, s2, s3, s4, s5, s6⟩
              go_simp
              with_reducible rfl
            rotate_left
            · simp only [Act.put, List.setIfInBounds_toArray, List.set_cons_zero, List.set_cons_succ, i64_w, i32_w]
              rfl
            refine pure_ (i := 1) (N := some 32) (v := ?_) (a' := ?_) #[true, true, false, false, false, false, false, false] rfl rfl (by kernel_rfl) (fun _ _ _ h => h) (Or.inl ⟨by rfl, ?_⟩) ?_ ?_
            rotate_left
            · intro w'
              go_simp
              with_reducible rfl
            rotate_left
            · simp only [Act.put, List.setIfInBounds_toArray, List.set_cons_zero, List.set_cons_succ, i64_w, i32_w]
              rfl
            refine take_ (i := 2) (N := some 33) (v := ?_) (a' := ?_) #[true, true, true, false, false, false, false, false] rfl rfl (by kernel_rfl) (fun _ _ _ h => h) (Or.inl ⟨by rfl, ?_⟩) hHeld ?_ ?_
            rotate_left
            · rintro w' ⟨s0, s1, s2, s3, s4, s5, s6⟩
              go_simp
              with_reducible rfl
            rotate_left
            · simp only [Act.put, List.setIfInBounds_toArray, List.set_cons_zero, List.set_cons_succ, i64_w, i32_w]
              rfl
            refine pure_ (i := 3) (N := some 34) (v := ?_) (a' := ?_) #[true, true, true, true, false, false, false, false] rfl rfl (by kernel_rfl) (fun _ _ _ h => h) (Or.inl ⟨by rfl, ?_⟩) ?_ ?_
            rotate_left
            · intro w'
              go_simp
              with_reducible rfl
            rotate_left
            · simp only [Act.put, List.setIfInBounds_toArray, List.set_cons_zero, List.set_cons_succ, i64_w, i32_w]
              rfl
            refine pure_ (i := 4) (N := some 35) (v := ?_) (a' := ?_) #[true, true, true, true, true, false, false, false] rfl rfl (by kernel_rfl) (fun _ _ _ h => h) (Or.inl ⟨by rfl, ?_⟩) ?_ ?_
            rotate_left
            · intro w'
              go_simp
              with_reducible rfl
            rotate_left
            · simp only [Act.put, List.setIfInBounds_toArray, List.set_cons_zero, List.set_cons_succ, i64_w, i32_w]
              rfl
            refine take_ (i := 5) (N := some 36) (v := ?_) (a' := ?_) #[true, true, true, true, true, true, false, false] rfl rfl (by kernel_rfl) (fun _ _ _ h => h) (Or.inl ⟨by rfl, ?_⟩) hHeld ?_ ?_
            rotate_left
            · rintro w' ⟨s0, s1, s2, s3, s4, s5, s6⟩
              go_simp
              with_reducible rfl
            rotate_left
            · simp only [Act.put, List.setIfInBounds_toArray, List.set_cons_zero, List.set_cons_succ, i64_w, i32_w]
              rfl
            refine one_ (i := 6) (N := some 37) #[true, true, true, true, true, true, true, false] rfl rfl (by kernel_rfl) (by decide) (fun K hK => ?_)
            refine goes_ Try.func74 (by kernel_rfl) rfl #[.agg #[.int .i64 y.f0, .string y.f1, .int .i64 y.f2, .slice Y_3 y.f3.length Y_c3, .slice Y_4 y.f4.length Y_c4], .int .i64 nm.f3[i], .int .i64 0] (by rfl) rfl rfl (by (try simp only [List.map_toArray, List.map_cons, List.map_nil]); first | done | rfl) ?_
            refine (l2ChangeS_any nm.f3[i] 0 y HSF.out Y_3 Y_c3 Y_4 Y_c4 wd (HK.out.later HB.out).now (by have := HTO.out; omega)).mono ?_
            rintro e w4 ⟨v3, v4, rfl, hnw, hb4⟩
            refine ⟨_, rfl, ?_⟩
            have hlo : wr.heap.size ≤ wd.heap.size := HB.out.size
            replace HB := Lib.hid (below_step HB.out hb4)
            have HEQ := HADD.out
            generalize y.chS (wayS nm.f3[i] 0) = y' at hnw HEQ ⊢
            obtain ⟨N_3, N_c3, N_4, N_c4, rfl, rfl, hs4⟩ := hnw.toS
            have HS4 := Lib.hid hs4
            have HE := Lib.hid HEQ
            clear hnw hs4 hb4 HEQ
            refine hK.out _ _ ⟨(fm_cells (blk_below HY.out HB.out)).1, (fm_cells (blk_below HY.out HB.out)).2.1, (fm_cells (blk_below HY.out HB.out)).2.2.1, (fm_cells (blk_below HY.out HB.out)).2.2.2.1, (fm_cells (blk_below HY.out HB.out)).2.2.2.2, (fm_cells (blk_below HK1.out HB.out)).2.2.2.1, ck0 HB.out HG.out⟩ (fun hHeld => ?_)
            clear hK K
            refine norm_ (a' := ?_) ?_ ?_
            rotate_left
            · show Act.put _ (some 37) _ = _
              simp only [Act.put, List.setIfInBounds_toArray, List.set_cons_zero, List.set_cons_succ, i64_w, i32_w]
              rfl
            refine last_ (i := 7) (N := none) #[true, true, true, true, true, true, true, true] rfl rfl (by kernel_rfl) (by decide) (fun K hK => ?_)
            have hyx := blk_below HY.out HB.out
            obtain ⟨z0, z1, z2, z3, z4⟩ := fm_cells hyx
            obtain ⟨f0, f1, f2, f3, f4⟩ := fm_free hyx
            obtain ⟨st1, st2, st3⟩ := st5 hyx (.int .i64 y'.f0) (.string y'.f1) (.int .i64 y'.f2) (.slice N_3 y'.f3.length N_c3) (.slice N_4 y'.f4.length N_c4)
            have HEND := Lib.hid (And.intro st1 (And.intro (FmP.ofS (P := fun b => w.heap.size + 3 ≤ b ∧ b ≠ w3.heap.size) (HS4.out.move (st3 0 w4 (Below.refl 0 _) (Nat.zero_le _)).size (fun b h1 h2 => st2 b (by have := HGY.out; omega))) (fun b h1 h2 => ⟨by have := HGY.out; have := HL2.out; have := HLW.out; omega, by have := HGY.out; omega⟩)) (st3 _ _ (below_step HW.out HB.out) (Nat.le_refl _))))
            clear hyx st1 st2 st3
            refine skip_ (w1 := ?_) (by rfl) rfl ?_ ?_
            rotate_left
            · go_simp
              rfl
            refine hK.out _ _ ?_
            clear hK K z0 z1 z2 z3 z4 f0 f1 f2 f3 f4
            refine done_ (by kernel_rfl) ?_
            go_wp2_with fail
            go_roundg (nm.f3.length - (i + 1))
            case measure => omega
            case rel => exact ⟨i + 1, N_3, N_c3, N_4, N_c4, by omega, Nat.le_refl _, by go_num, ⟨by rw [← HE.out]; exact HEND.out.1⟩, ⟨by rw [← HE.out]; exact HEND.out.2.1⟩, ⟨HEND.out.2.2⟩⟩
          · obtain rfl : i = nm.f3.length := by omega
            rw [List.take_length] at HY HK
            have HTO := Lib.hid (dress_tot HV.out HM.out nm.f3.length)
            rw [List.take_length] at HTO
            have HRE := Lib.hid (dressR_in HV.out HM.out)
            have HK2 := Lib.hid (blk_below K2.out HW.out)
            have HK1 := Lib.hid (blk_below K1.out HW.out)
            obtain ⟨p0, p1, p2, p3, p4⟩ := fm_cells HY.out
            obtain ⟨s0, s1, s2, s3, s4⟩ := fm_cells HK1.out
            generalize x.chS (addL nm.f3) = y at HY HK HTO HRE p0 p1 p2 p3 p4 ⊢
            go_wp2_with fail
            clear p0 p1 p2 p3 p4 s0 s1 s2 s3 s4
            refine (specValid_any y Y_3 Y_c3 Y_4 Y_c4 wr HK.out.now (by have := HTO.out; omega)).mono ?_
            rintro e w5 ⟨rfl, hb5⟩
            have HY5 := Lib.hid (blk_below HY.out hb5)
            have HP5 := Lib.hid (HK.out.later hb5)
            have hk2 := blk_below HK2.out hb5
            have HB5 := Lib.hid (below_step BW.out (below_step HW.out hb5))
            obtain ⟨q0, q1, q2, q3, q4⟩ := fm_cells hk2
            obtain ⟨f0, f1, f2, f3, f4⟩ := fm_free hk2
            clear hb5
            by_cases hy : FmOk y
            · rw [← pB_yes hy]
              have HO := Lib.hid (orN_yes hy)
              clear hy
              obtain ⟨st1, st2, st3⟩ := st5 hk2 (.int .i64 y.f0) (.string y.f1) (.int .i64 y.f2) (.slice Y_3 y.f3.length Y_c3) (.slice Y_4 y.f4.length Y_c4)
              have HEND := Lib.hid (And.intro ((HP5.out.move (st3 0 _ (Below.refl 0 _) (Nat.zero_le _)).size (fun b hb _ => st2 b (by omega))).toS (fun b hb => show w.heap.size ≤ b by have := hb.1; omega)) (st3 _ _ HB5.out (by omega)))
              clear st1 st2 st3 hk2
              obtain ⟨p0, p1, p2, p3, p4⟩ := fm_cells HY5.out
              go_wp2_with fail
              refine bodyPost_ret (v := .tuple #[.agg #[.int .i64 y.f0, .string y.f1, .int .i64 y.f2, .slice Y_3 y.f3.length Y_c3, .slice Y_4 y.f4.length Y_c4], .bool true]) (by simp [results, Try.results30, go_sem, q0, q1, q2, q3, q4, f0, f1, f2, f3, f4]) rfl ?_
              rw [HRE.out, HO.out]
              exact ⟨_, _, _, _, rfl, HEND.out.1, HEND.out.2⟩
            · rw [← pB_no hy]
              have HO := Lib.hid (orN_no hy)
              clear hy hk2
              go_wp2_with fail
              refine bodyPost_ret (v := .tuple #[.agg #[.int .i64 0, .string ⟨#[]⟩, .int .i64 0, .slice none 0 0, .slice none 0 0], .bool false]) (by simp [results, Try.results30, go_sem, q0, q1, q2, q3, q4, f0, f1, f2, f3, f4]) rfl ?_
              rw [HRE.out, HO.out]
              refine ⟨none, 0, none, 0, rfl, ⟨fun _ _ => ⟨Nat.le_refl 0, Kd.C_nil kI _, Nat.le_refl 0, Kd.C_nil kF _⟩⟩, ?_⟩
              repeat (refine below_set ?_ (by omega))
              exact HB5.out
      · have t1 : (nm.f0 == 1) = false := beq_eq_false_iff_ne.mpr hk
        have t2 : (nm.f0 != 1) = true := by simpa using hk
        have HM := Lib.hid (show ¬ IsName nm from fun h => hk h.1)
        clear hk hnv
        obtain ⟨p0, p1, p2, p3, p4⟩ := fm_cells K1.out
        obtain ⟨q0, q1, q2, q3, q4⟩ := fm_cells K2.out
        obtain ⟨f0, f1, f2, f3, f4⟩ := fm_free K2.out
        have HB5 := Lib.hid B2.out
        go_wp2_with fail
        refine bodyPost_ret (v := .tuple #[.agg #[.int .i64 0, .string ⟨#[]⟩, .int .i64 0, .slice none 0 0, .slice none 0 0], .bool false]) (by simp [results, Try.results30, go_sem, q0, q1, q2, q3, q4, f0, f1, f2, f3, f4]) rfl ?_
        rw [dressR_out (fun h => HM.out h.2)]
        refine ⟨none, 0, none, 0, rfl, ⟨fun _ _ => ⟨Nat.le_refl 0, Kd.C_nil kI _, Nat.le_refl 0, Kd.C_nil kF _⟩⟩, ?_⟩
        repeat (refine below_set ?_ (by omega))
        exact HB5.out
    · rw [← pB_no hnv]
      have HM := Lib.hid (show ¬ IsName nm from fun h => hnv h.2)
      clear hnv
      obtain ⟨q0, q1, q2, q3, q4⟩ := fm_cells K2.out
      obtain ⟨f0, f1, f2, f3, f4⟩ := fm_free K2.out
      have HB5 := Lib.hid B2.out
      go_wp2_with fail
      refine bodyPost_ret (v := .tuple #[.agg #[.int .i64 0, .string ⟨#[]⟩, .int .i64 0, .slice none 0 0, .slice none 0 0], .bool false]) (by simp [results, Try.results30, go_sem, q0, q1, q2, q3, q4, f0, f1, f2, f3, f4]) rfl ?_
      rw [dressR_out (fun h => HM.out h.2)]
      refine ⟨none, 0, none, 0, rfl, ⟨fun _ _ => ⟨Nat.le_refl 0, Kd.C_nil kI _, Nat.le_refl 0, Kd.C_nil kF _⟩⟩, ?_⟩
      repeat (refine below_set ?_ (by omega))
      exact HB5.out
  · rw [← pB_no hv]
    have HV := Lib.hid hv
    clear hv
    obtain ⟨q0, q1, q2, q3, q4⟩ := fm_cells K2.out
    obtain ⟨f0, f1, f2, f3, f4⟩ := fm_free K2.out
    have HB5 := Lib.hid B1.out
    go_wp2_with fail
    refine bodyPost_ret (v := .tuple #[.agg #[.int .i64 0, .string ⟨#[]⟩, .int .i64 0, .slice none 0 0, .slice none 0 0], .bool false]) (by simp [results, Try.results30, go_sem, q0, q1, q2, q3, q4, f0, f1, f2, f3, f4]) rfl ?_
    rw [dressR_out (fun h => HV.out h.1)]
    refine ⟨none, 0, none, 0, rfl, ⟨fun _ _ => ⟨Nat.le_refl 0, Kd.C_nil kI _, Nat.le_refl 0, Kd.C_nil kF _⟩⟩, ?_⟩
    repeat (refine below_set ?_ (by omega))
    exact HB5.out
end Go.Proofs.Ytnaefjilcabkoaa
end
section
namespace Go.Proofs.Ytnaefjilcabkoaa
open Go.RowKit Go.Proofs.YtnaefjilcabkoaaW.PrintWords Go.Proofs.YtnaefjilcabkoaaW.PrintLast Go.Proofs.YtnaefjilcabkoaaW.PrintMore
set_option linter.unusedVariables false
set_option linter.unusedSimpArgs false
/-- What is returned: a form in new blocks, and how it went. -/
def GetO (w : World) (x : Fm) (b : Bool) (e : Ending) (w' : World) : Prop := ∃ A3 c3 A4 c4 fp, e = .returned (.tuple #[.agg #[.int .i64 x.f0, .string x.f1, .int .i64 x.f2, .slice A3 x.f3.length c3, .slice A4 x.f4.length c4], .bool b]) ∧ Own w.heap.size w'.heap.size w' x (.slice A3 x.f3.length c3) (.slice A4 x.f4.length c4) fp ∧ Below w.heap.size w w'
theorem RetT.getO {w : World} {p : Fm × Bool} {e : Ending} {w' : World} (h : RetT tellsNew w p e w') : GetO w p.1 p.2 e w' := by
  obtain ⟨v3, v4, rfl, hn, hb⟩ := h
  obtain ⟨A3, c3, A4, c4, fp, rfl, rfl, ho⟩ := NewF.own hn
  exact ⟨A3, c3, A4, c4, fp, rfl, ho, hb⟩
theorem implDressO {x nm z : Fm} {b : Bool} (h : dressR nm x = (z, b)) (A3 : Option Addr) (c3 : Nat) (A4 : Option Addr) (c4 : Nat) (B3 : Option Addr) (d3 : Nat) (B4 : Option Addr) (d4 : Nat) (w : World) (hx : FmIn w x A3 c3 A4 c4) (hn : FmIn w nm B3 d3 B4 d4) (tx : x.tot ≤ 1048576) (tn : nm.tot ≤ 1048576) :
    Calls Try.prog 31 #[.agg #[.int .i64 x.f0, .string x.f1, .int .i64 x.f2, .slice A3 x.f3.length c3, .slice A4 x.f4.length c4], .agg #[.int .i64 nm.f0, .string nm.f1, .int .i64 nm.f2, .slice B3 nm.f3.length d3, .slice B4 nm.f4.length d4]] w (GetO w z b) := by
  have h1 := (implDress_new x nm A3 c3 A4 c4 B3 d3 B4 d4 w hx hn tx tn).mono (fun e w' h => h.getO)
  rwa [h] at h1
theorem specDressO {x nm z : Fm} {b : Bool} (h : dressR nm x = (z, b)) (A3 : Option Addr) (c3 : Nat) (A4 : Option Addr) (c4 : Nat) (B3 : Option Addr) (d3 : Nat) (B4 : Option Addr) (d4 : Nat) (w : World) (hx : FmIn w x A3 c3 A4 c4) (hn : FmIn w nm B3 d3 B4 d4) (tx : x.tot ≤ 1048576) (tn : nm.tot ≤ 1048576) :
    Calls Try.prog 30 #[.agg #[.int .i64 x.f0, .string x.f1, .int .i64 x.f2, .slice A3 x.f3.length c3, .slice A4 x.f4.length c4], .agg #[.int .i64 nm.f0, .string nm.f1, .int .i64 nm.f2, .slice B3 nm.f3.length d3, .slice B4 nm.f4.length d4]] w (GetFS w z (.bool b)) := by
  have h1 := specDress_S x nm A3 c3 A4 c4 B3 d3 B4 d4 w hx hn tx tn
  rwa [h] at h1
theorem Own.toS {lo hi : Nat} {w : World} {x : Fm} {A3 : Option Addr} {c3 : Nat} {A4 : Option Addr} {c4 : Nat} {fp : List Nat} (h : Own lo hi w x (.slice A3 x.f3.length c3) (.slice A4 x.f4.length c4) fp) : FmS lo w x A3 c3 A4 c4 := by
  refine ⟨fun W hW => ?_⟩
  obtain ⟨B3, d3, B4, d4, e1, e2, hin⟩ := (h.tree.move (w1 := W) x (fun b hb => hW b (h.lo_ b hb) (h.tree.lt x b hb))).In
  injection e1 with a1 _ a2
  injection e2 with a3 _ a4
  subst a1 a2 a3 a4
  exact hin
theorem dressTot (nm x : Fm) : (dressR nm x).1.tot ≤ 20000 := by
  by_cases hx : FmOk x ∧ IsName nm
  · rw [dressR_in hx.1 hx.2]
    by_cases h : FmOk (x.chS (addL nm.f3))
    · rw [orN_yes h]; exact fmOk_tot h
    · rw [orN_no h]; show zFm.tot ≤ _; rw [zFm_tot]; omega
  · rw [dressR_out hx]; show zFm.tot ≤ _; rw [zFm_tot]; omega
theorem implDressS {x nm z : Fm} {b : Bool} (h : dressR nm x = (z, b)) (A3 : Option Addr) (c3 : Nat) (A4 : Option Addr) (c4 : Nat) (B3 : Option Addr) (d3 : Nat) (B4 : Option Addr) (d4 : Nat) (w : World) (hx : FmIn w x A3 c3 A4 c4) (hn : FmIn w nm B3 d3 B4 d4) (tx : x.tot ≤ 1048576) (tn : nm.tot ≤ 1048576) :
    Calls Try.prog 31 #[.agg #[.int .i64 x.f0, .string x.f1, .int .i64 x.f2, .slice A3 x.f3.length c3, .slice A4 x.f4.length c4], .agg #[.int .i64 nm.f0, .string nm.f1, .int .i64 nm.f2, .slice B3 nm.f3.length d3, .slice B4 nm.f4.length d4]] w (GetFS w z (.bool b)) := by
  refine (implDressO h A3 c3 A4 c4 B3 d3 B4 d4 w hx hn tx tn).mono ?_
  rintro e w' ⟨E3, k3, E4, k4, fp, rfl, ho, hb⟩
  exact ⟨E3, k3, E4, k4, rfl, ho.toS, hb⟩
end Go.Proofs.Ytnaefjilcabkoaa
end
section
namespace Go.Proofs.Ytnaefjilcabkoaa
open Go.RowKit Go.Proofs.YtnaefjilcabkoaaW.PrintWords Go.Proofs.YtnaefjilcabkoaaW.PrintLast Go.Proofs.YtnaefjilcabkoaaW.PrintMore
open Go.ChangeShapes Go.WideShapes Go.ChangeAt Go.Deep
set_option linter.unusedVariables false

section
variable {H : Type} {enc : TypeId × Value → H} {W : World} {held : Bool}
theorem trod_ints (fuel : Nat) (cs : List Value) (y : DataW H × List MemPlace) (h : DataW.trod enc Try.prog W 0 (fun _ => true) held fuel 22 cs = some y) :
    ∃ (A : Option Addr) (c : Nat) (zs : List Int), cs = [.slice A zs.length c] ∧ zs.length ≤ c ∧ kI.C W A zs.length zs := by
  rcases open_slice1 Try.underlying22 (by kernel_rfl) h with ⟨rfl, _⟩ | ⟨a, len, cap, m, n, V, D, Pl, rfl, _, hl, hm, hmm, rfl, hx⟩
  · exact ⟨none, 0, [], rfl, Nat.le_refl _, Kd.C_nil _ _⟩
  · obtain ⟨f, hf⟩ := choose_lt (α := Int) (n := len) (p := fun i z => W.cell? (a.add i) = some (.int .i64 z)) (fun i hi => by
      obtain ⟨h1, h2⟩ := hx i (by rw [hmm]; simp; omega)
      obtain ⟨z, e, _⟩ := DataW.trod_int Try.underlying3 h2
      rw [List.cons.injEq] at e
      exact ⟨z, by rw [h1, e.1]⟩)
    have hlen : ((List.range len).map f).length = len := by simp
    refine ⟨some a, cap, (List.range len).map f, by rw [hlen], by omega, by rw [hlen], by rw [hlen]; unfold maxLen at hm; omega, fun _ => ⟨a, rfl, fun j p hj => ⟨[.int .i64 p], rfl, rfl, fun i u hu => ?_⟩⟩⟩
    have hjl : j < len := by have := (List.getElem?_eq_some_iff.1 hj).1; omega
    have hp : f j = p := by simpa [hjl] using hj
    cases i with
    | zero =>
      have : Value.int .i64 p = u := by simpa using hu
      subst this
      rw [← hp]
      show W.cell? (a.add (j * 1 + 0)) = _
      simpa using hf j hjl
    | succ i => simp at hu
instance : Inhabited Fm := ⟨zFm⟩
theorem len5 {α : Type} {l : List α} (h : l.length = 5) : ∃ a b c d e, l = [a, b, c, d, e] := by
  rcases l with _ | ⟨a, _ | ⟨b, _ | ⟨c, _ | ⟨d, _ | ⟨e, _ | ⟨f, l⟩⟩⟩⟩⟩⟩ <;> simp at h
  exact ⟨a, b, c, d, e, rfl⟩
theorem trod_forms_of (fuel : Nat) (ih : ∀ m, m < fuel → ∀ (cs : List Value) (y : DataW H × List MemPlace), DataW.trod enc Try.prog W 0 (fun _ => true) held m 25 cs = some y → ∃ x, kF.K W x cs ∧ NmSmall x)
    (cs : List Value) (y : DataW H × List MemPlace) (h : DataW.trod enc Try.prog W 0 (fun _ => true) held fuel 23 cs = some y) :
    ∃ (A : Option Addr) (c : Nat) (ks : List Fm), cs = [.slice A ks.length c] ∧ ks.length ≤ c ∧ kF.C W A ks.length ks ∧ ∀ k, k ∈ ks → NmSmall k := by
  rcases DataW.trod_slice Try.underlying23 h with ⟨rfl, _⟩ | ⟨a, len, cap, elems, rest, n, rfl, rfl, rfl, hb, hl, hm, hlen, hel, _, _⟩
  · exact ⟨none, 0, [], rfl, Nat.le_refl _, Kd.C_nil _ _, fun k hk => by cases hk⟩
  · have h5 : Try.prog.cellsOf 25 = 5 := by kernel_rfl
    rw [h5] at hel
    obtain ⟨f, hf⟩ := choose_lt (α := Fm) (n := len) (p := fun i x => (∃ cs', W.cells? 0 (a.add (i * 5)) 5 = some cs' ∧ kF.K W x cs') ∧ NmSmall x) (fun i hi => by
      have h1 := hel i hi
      rw [List.getElem?_eq_getElem (by omega)] at h1
      obtain ⟨cs', h2, h3⟩ := Option.bind_eq_some_iff.1 h1
      obtain ⟨x, hK, hN⟩ := ih n (Nat.lt_succ_self n) cs' _ h3
      exact ⟨x, ⟨cs', h2, hK⟩, hN⟩)
    have hlen2 : ((List.range len).map f).length = len := by simp
    refine ⟨some a, cap, (List.range len).map f, by rw [hlen2], by omega, ⟨by rw [hlen2], by rw [hlen2]; unfold maxLen at hm; omega, fun _ => ⟨a, rfl, fun j p hj => ?_⟩⟩, fun k hk => ?_⟩
    · have hjl : j < len := by have := (List.getElem?_eq_some_iff.1 hj).1; omega
      have hp : f j = p := by simpa [hjl] using hj
      obtain ⟨⟨cs', h2, hK⟩, _⟩ := hf j hjl
      rw [hp] at hK
      obtain ⟨_, h3, h4⟩ := World.cells?_some h2
      refine ⟨cs', h3, hK, fun i u hu => ?_⟩
      have hi : i < 5 := by have := (List.getElem?_eq_some_iff.1 hu).1; omega
      have := h4 i hi
      rw [Deep.add_add, hu] at this
      exact this
    · obtain ⟨j, hj, rfl⟩ := List.mem_map.1 hk
      exact (hf j (List.mem_range.1 hj)).2
set_option maxRecDepth 100000 in
theorem trod_form : ∀ (fuel : Nat) (cs : List Value) (y : DataW H × List MemPlace), DataW.trod enc Try.prog W 0 (fun _ => true) held fuel 25 cs = some y → ∃ x, kF.K W x cs ∧ NmSmall x := by
  intro fuel
  induction fuel using Nat.strongRecOn with
  | _ fuel ih =>
    intro cs y h
    obtain ⟨xs, n, hfu, rfl, hl, hlen, hf⟩ := DataW.trod_struct Try.underlying25 h
    rw [show Try.prog.cellsOf 25 = 5 from by kernel_rfl] at hl
    obtain ⟨c0, c1, c2, c3, c4, rfl⟩ := len5 hl
    obtain ⟨y0, y1, y2, y3, y4, rfl⟩ := len5 (show xs.length = 5 from hlen)
    have f0 := hf 0 _ rfl
    have f1 := hf 1 _ rfl
    have f2 := hf 2 _ rfl
    have f3 := hf 3 _ rfl
    have f4 := hf 4 _ rfl
    simp only [List.getElem_toArray, List.getElem_cons_zero, List.getElem_cons_succ] at f0 f1 f2 f3 f4
    simp only [show Try.prog.cellsOf 3 = 1 from by kernel_rfl, show Try.prog.cellsOf 9 = 1 from by kernel_rfl, show Try.prog.cellsOf 22 = 1 from by kernel_rfl, show Try.prog.cellsOf 23 = 1 from by kernel_rfl, List.drop_succ_cons, List.drop_zero, List.take_succ_cons, List.take_zero, List.getElem?_cons_zero, List.getElem?_cons_succ] at f0 f1 f2 f3 f4
    obtain ⟨z0, e0, _⟩ := DataW.trod_int Try.underlying3 f0
    obtain ⟨s1, e1, _, hs1⟩ := DataW.trod_string Try.underlying9 f1
    obtain ⟨z2, e2, _⟩ := DataW.trod_int Try.underlying3 f2
    obtain ⟨A3, d3, zs, e3, l3, r3⟩ := trod_ints n _ _ f3
    obtain ⟨A4, d4, ks, e4, l4, r4, hN⟩ := trod_forms_of n (fun m hm => ih m (by omega)) _ _ f4
    rw [List.cons.injEq] at e0 e1 e2 e3 e4
    obtain ⟨rfl, _⟩ := e0
    obtain ⟨rfl, _⟩ := e1
    obtain ⟨rfl, _⟩ := e2
    obtain ⟨rfl, _⟩ := e3
    obtain ⟨rfl, _⟩ := e4
    exact ⟨⟨z0, s1, z2, zs, ks⟩, kF_mk (x := ⟨z0, s1, z2, zs, ks⟩) ⟨l3, r3, l4, r4⟩, .mk _ (by unfold maxLen at hs1; exact hs1) hN⟩
set_option maxRecDepth 100000 in
/-- An argument that is a form. -/
theorem open_form {v : Value} {d : DataW H} {p : List MemPlace} (hv : Value.okWide Try.prog W .any 0 25 v) (h : DataW.Trod enc Try.prog W 0 (fun _ => true) held 25 v d p) :
    ∃ (x : Fm) (A3 : Option Addr) (c3 : Nat) (A4 : Option Addr) (c4 : Nat), v = .agg #[.int .i64 x.f0, .string x.f1, .int .i64 x.f2, .slice A3 x.f3.length c3, .slice A4 x.f4.length c4] ∧ FmIn W x A3 c3 A4 c4 ∧ NmSmall x := by
  obtain ⟨cs, rfl, hsz⟩ := okWide_struct Try.underlying25 hv
  obtain ⟨fuel, hf⟩ := h
  obtain ⟨x, hK, hN⟩ := trod_form fuel _ _ hf
  obtain ⟨A3, c3, A4, c4, e, hin⟩ := kF_open hK
  refine ⟨x, A3, c3, A4, c4, ?_, hin, hN⟩
  have e2 : cs.toList = fmC x A3 c3 A4 c4 := by simpa [Value.cells] using e
  have e3 : cs = #[.int .i64 x.f0, .string x.f1, .int .i64 x.f2, .slice A3 x.f3.length c3, .slice A4 x.f4.length c4] := by
    rw [← Array.toArray_toList (xs := cs), e2]
  rw [e3]
end
end Go.Proofs.Ytnaefjilcabkoaa
end
