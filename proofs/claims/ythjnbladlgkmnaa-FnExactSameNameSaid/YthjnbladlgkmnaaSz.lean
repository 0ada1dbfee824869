/- Contracts of szForm and its kin: how many values and letters came in. -/
import Derived.Test.YthjnbladlgkmnaaInt
import Derived.Test.YthjnbladlgkmnaaMath
namespace Go.Proofs.Ythjnbladlgkmnaa
open Go.RowKit Go.Proofs.YthjnbladlgkmnaaW.PrintWords Go.Proofs.YthjnbladlgkmnaaW.PrintLast Go.Proofs.YthjnbladlgkmnaaW.PrintMore
set_option linter.unusedVariables false
set_option linter.unusedSimpArgs false

theorem szIntS_any (A : Option Addr) (n c : Nat) (L : Int) (w : World) (h0 : 0 ≤ L) (h1 : L ≤ 1048576) (hn : n ≤ 9223372036854775807) : Calls Try.prog 107 #[.slice A n c, .int .i64 L] w (Ret w (.int .i64 (szR L n))) := by
  by_cases h : (n : Int) ≤ L
  · have hd : decide (L - (n : Int) < 0) = false := decide_eq_false (by omega)
    have H := Lib.hid (szR_yes h)
    go_enter Try.func107, Try.ntmps107
    go_wp2_with fail
    go_ret
    exact ⟨ret_i H.out.symm, Below.refl _ _⟩
  · have hd : decide (L - (n : Int) < 0) = true := decide_eq_true (by omega)
    have H := Lib.hid (szR_no (L := L) (t := n) (by omega))
    go_enter Try.func107, Try.ntmps107
    go_wp2_with fail
    go_ret
    exact ⟨ret_i H.out.symm, Below.refl _ _⟩
/-- What is asked of szForm at a form. -/
def SzForm (x : Fm) : Prop := ∀ (A3 : Option Addr) (c3 : Nat) (A4 : Option Addr) (c4 : Nat) (L : Int) (w : World), FmIn w x A3 c3 A4 c4 → NmSmall x → 0 ≤ L → L ≤ 1048576 →
    Calls Try.prog 34 #[.agg #[.int .i64 x.kind, .string x.name, .int .i64 x.num, .slice A3 x.sc.length c3, .slice A4 x.kids.length c4], .int .i64 L] w (Ret w (.int .i64 (szR L x.tot)))
theorem totL_split (ks : List Fm) (i : Nat) : totL (ks.take i) + (ks.length - i) ≤ totL ks := by
  have h := totL_append (ks.take i) (ks.drop i)
  rw [List.take_append_drop] at h
  have := len_totL (ks.drop i)
  rw [List.length_drop] at this
  omega
theorem len_take_totL (ks : List Fm) (i : Nat) (h : i ≤ ks.length) : i ≤ totL (ks.take i) := by
  have := len_totL (ks.take i)
  rw [List.length_take] at this
  omega
set_option maxHeartbeats 1000000 in
theorem szFormS_of (ks : List Fm) (hks : ∀ k, k ∈ ks → SzForm k) (A : Option Addr) (c : Nat) (L : Int) (w : World) (hr : kF.C w A ks.length ks) (hc : ks.length ≤ c) (hnm : ∀ k, k ∈ ks → NmSmall k) (h0 : 0 ≤ L) (h1 : L ≤ 1048576) :
    Calls Try.prog 64 #[.slice A ks.length c, .int .i64 L] w (Ret w (.int .i64 (szR L (totL ks)))) := by
  have hmax := hr.2.1
  by_cases hlen : (ks.length : Int) ≤ L
  · have hd : decide (L - (ks.length : Int) < 0) = false := decide_eq_false (by omega)
    have HK := Lib.hid hks
    have HM := Lib.hid hnm
    clear hks hnm
    go_enter Try.func64, Try.ntmps64
    go_wp2_with fail
    go_loopg [1, 5] ks.length (fun kq v1 v5 w' => ∃ (i : Nat) (M : Int), i ≤ ks.length ∧ ks.length - i ≤ kq ∧ v5 = .int .i64 i ∧ v1 = .int .i64 M ∧ 0 ≤ M ∧ M ≤ L ∧ Aside0 (M = L - ((ks.length - i : Nat) : Int) - (totL (ks.take i) : Int)) ∧ Aside0 (Below w.heap.size w w'))
    case atStart => exact ⟨0, L - ks.length, Nat.zero_le _, by omega, rfl, rfl, by omega, by omega, ⟨by simp [totL]⟩, ⟨Below.refl _ _⟩⟩
    case round =>
      obtain ⟨i, M, hi, hg, rfl, rfl, hM0, hM1, HM1, HW⟩ := hrel
      by_cases hlt : i < ks.length
      · obtain ⟨ad, B3, d3, B4, d4, e, g0, g1, g2, g3, g4, hk⟩ := kid_at (Kd.C_below hr HW.out) i hlt
        have HC := Lib.hid (HK.out _ (List.getElem_mem hlt) B3 d3 B4 d4 M wr hk (HM.out _ (List.getElem_mem hlt)) hM0 (by omega))
        have HT := Lib.hid (totL_take ks i hlt)
        have HS := Lib.hid (totL_split ks (i + 1))
        clear hk
        subst e
        by_cases hq : (ks[i].tot : Int) ≤ M
        · rw [szR_yes hq] at HC
          have hd2 : decide (M - (ks[i].tot : Int) < 0) = false := decide_eq_false (by omega)
          go_wp2_with fail
          refine HC.out.mono ?_
          rintro e w1 ⟨rfl, hb1⟩
          go_wp2_with fail
          go_roundg (ks.length - (i + 1))
          case measure => omega
          case rel => exact ⟨i + 1, M - ks[i].tot, by omega, Nat.le_refl _, by go_num, rfl, by omega, by omega, ⟨by have := HM1.out; have := HT.out; omega⟩, ⟨below_step HW.out hb1⟩⟩
        · rw [szR_no (by omega)] at HC
          have HN := Lib.hid (szR_no (L := L) (t := totL ks) (by have := HM1.out; have := HT.out; have := HS.out; omega))
          go_wp2_with fail
          refine HC.out.mono ?_
          rintro e w1 ⟨rfl, hb1⟩
          go_wp2_with fail
          go_ret
          exact ⟨ret_i HN.out.symm, below_step HW.out hb1⟩
      · obtain rfl : i = ks.length := by omega
        have HN := Lib.hid (szR_yes (L := L) (t := totL ks) (by have := HM1.out; rw [List.take_length] at this; omega))
        have HE := Lib.hid (show M = L - (totL ks : Int) by have := HM1.out; rw [List.take_length] at this; omega)
        go_wp2_with fail
        go_ret
        exact ⟨ret_i (by rw [HN.out, HE.out]), HW.out⟩
  · have hd : decide (L - (ks.length : Int) < 0) = true := decide_eq_true (by omega)
    have HN := Lib.hid (szR_no (L := L) (t := totL ks) (by have := len_totL ks; omega))
    go_enter Try.func64, Try.ntmps64
    go_wp2_with fail
    go_ret
    exact ⟨ret_i HN.out.symm, Below.refl _ _⟩
theorem szR_step {L : Int} {a b : Nat} (h : (a : Int) ≤ L) : szR (L - a) b = szR L (a + b) := by unfold szR; split <;> split <;> omega
set_option maxHeartbeats 1000000 in
theorem szForm_any (x : Fm) : SzForm x := by
  induction x using Fm.ind with
  | h x ih =>
    intro A3 c3 A4 c4 L w hin hnm h0 h1
    have hn := hnm.nm
    have H3 := hin.g3.2.1
    rw [Fm.tot_eq]
    by_cases h2 : (x.name.size : Int) ≤ L
    · have hd : decide (L - (x.name.size : Int) < 0) = false := decide_eq_false (by omega)
      by_cases h3 : (x.sc.length : Int) ≤ L - x.name.size
      · have HE : Hid (szR (L - x.name.size - x.sc.length) (totL x.kids) = szR L (x.name.size + x.sc.length + totL x.kids)) := Lib.hid (by rw [szR_step h3, szR_step h2]; congr 1; omega)
        go_enter Try.func34, Try.ntmps34
        go_wp2_with fail
        refine (szIntS_any A3 x.sc.length c3 _ _ (by omega) (by omega) H3).mono ?_
        rintro e w1 ⟨rfl, hb1⟩
        rw [szR_yes h3]
        have hd2 : decide (L - (x.name.size : Int) - (x.sc.length : Int) < 0) = false := decide_eq_false (by omega)
        have hb0 : Below w.heap.size w w1 := below_step (below_new w _) hb1
        obtain ⟨q0, q1, q2, q3, q4⟩ := fm_cells (blk_below (blk_new w _) hb1)
        go_wp2_with fail
        refine (szFormS_of x.kids ih A4 c4 _ _ (Kd.C_below hin.g4 hb0) hin.l4 hnm.kid (by omega) (by omega)).mono ?_
        rintro e w2 ⟨rfl, hb2⟩
        rw [HE.out]
        have hb3 := below_step hb0 hb2
        by_cases hz : szR L (x.name.size + x.sc.length + totL x.kids) < 0
        · have hd3 := decide_eq_true hz
          have HZ : Hid (szR L (x.name.size + x.sc.length + totL x.kids) = -1) := Lib.hid (szR_no (szR_neg.1 hz))
          clear hz
          go_wp2_with fail
          go_ret
          exact ⟨ret_i HZ.out.symm, hb3⟩
        · have hd3 := decide_eq_false hz
          clear hz
          go_wp2_with fail
          go_ret
          exact ⟨rfl, hb3⟩
      · have HZ : Hid (szR L (x.name.size + x.sc.length + totL x.kids) = -1) := Lib.hid (szR_no (by omega))
        go_enter Try.func34, Try.ntmps34
        go_wp2_with fail
        refine (szIntS_any A3 x.sc.length c3 _ _ (by omega) (by omega) H3).mono ?_
        rintro e w1 ⟨rfl, hb1⟩
        rw [szR_no (by omega)]
        have hb0 : Below w.heap.size w w1 := ((Below.refl _ _).alloc (Nat.le_refl _) _).trans (hb1.mono (by simp))
        go_wp2_with fail
        go_ret
        exact ⟨ret_i HZ.out.symm, hb0⟩
    · have hd : decide (L - (x.name.size : Int) < 0) = true := decide_eq_true (by omega)
      have HZ : Hid (szR L (x.name.size + x.sc.length + totL x.kids) = -1) := Lib.hid (szR_no (by omega))
      go_enter Try.func34, Try.ntmps34
      go_wp2_with fail
      go_ret
      exact ⟨ret_i HZ.out.symm, (Below.refl _ _).alloc (Nat.le_refl _) _⟩
theorem szFormS_any (ks : List Fm) (A : Option Addr) (c : Nat) (L : Int) (w : World) (hr : kF.C w A ks.length ks) (hc : ks.length ≤ c) (hnm : ∀ k, k ∈ ks → NmSmall k) (h0 : 0 ≤ L) (h1 : L ≤ 1048576) :
    Calls Try.prog 64 #[.slice A ks.length c, .int .i64 L] w (Ret w (.int .i64 (szR L (totL ks)))) := szFormS_of ks (fun k _ => szForm_any k) A c L w hr hc hnm h0 h1
end Go.Proofs.Ythjnbladlgkmnaa
