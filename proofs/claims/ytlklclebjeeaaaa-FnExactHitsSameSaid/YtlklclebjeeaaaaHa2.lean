/- Words for the laws' proofs (part 2): contracts of functions, and plain lemmas. -/
import Derived.Deep.RegionHeld3
import Derived.Shelf.Abstract
import Derived.Test.YtlklclebjeeaaaaHa1
section
namespace Go.Proofs.Ytlklclebjeeaaaa
open Go.RowKit Go.Proofs.YtlklclebjeeaaaaW.PrintWords Go.Proofs.YtlklclebjeeaaaaW.PrintLast Go.Proofs.YtlklclebjeeaaaaW.PrintMore
set_option linter.unusedVariables false
set_option linter.unusedSimpArgs false
set_option maxHeartbeats 8000000 in
set_option maxRecDepth 100000 in
theorem toHit_any (x : Ht) : ToHit x := by
  induction x using Ht.ind with
  | h x ih =>
    intro A3 Ac3 A4 Ac4 A9 Ac9 A10 Ac10 A11 Ac11 w hin ht
    rw [Ht.tot_eq] at ht
    have H1 := Lib.hid (fun W hb => toForm_any x.f0 A3 Ac3 A4 Ac4 W (hin.n.below hb) (by omega))
    have H2 := Lib.hid (fun W hb => toForm_any x.f2 A9 Ac9 A10 Ac10 W (hin.o.below hb) (by omega))
    have H3 := Lib.hid (fun W hb => toHitS_of x.f3 ih A11 Ac11 W (Kd.C_below hin.gm hb) hin.lm (by omega))
    clear ih hin ht
    go_enter Try.func64, Try.ntmps64
    go_wp2_with fail
    refine (H1.out _ (below_step (below_step (below_new _ _) (below_new _ _)) (below_new _ _))).mono ?_
    rintro e w1 ⟨v3, v4, rfl, hN1, hb1⟩
    obtain ⟨k0, k1, k2, b1⟩ := three_new hb1
    obtain ⟨B3, Bc3, B4, Bc4, rfl, rfl, s1⟩ := hN1.st
    have hn1 : w.heap.size + 1 ≠ w.heap.size + 1 + 1 := by omega
    have hn0 : w.heap.size ≠ w.heap.size + 1 + 1 := by omega
    have hlt1 : w.heap.size + 3 ≤ w1.heap.size := by have := blk_lt k2; omega
    have HS1 := Lib.hid (fun W (h : ∀ b, w.heap.size + 3 ≤ b → b < w1.heap.size → W.heap[b]? = w1.heap[b]?) => s1 W (fun b hb hl => h b (by simpa using hb) hl))
    have M0 := Lib.hid k0
    have M1 := Lib.hid k1
    have M2 := Lib.hid k2
    have BW := Lib.hid b1
    clear hb1 hN1 s1 k0 k1 k2 b1
    obtain ⟨p0, p1, p2, p3, p4, p5, p6, p7, p8, p9, p10, p11⟩ := ht_cells M0.out
    obtain ⟨q0, q1, q2, q3, q4, q5, q6, q7, q8, q9, q10, q11⟩ := ht_cells M2.out
    obtain ⟨f0, f1, f2, f3, f4, f5, f6, f7, f8, f9, f10, f11⟩ := ht_free M2.out
    go_wp2_with fail
    clear p0 p1 p2 p3 p4 p5 p6 p7 p8 p9 p10 p11 q0 q1 q2 q3 q4 q5 q6 q7 q8 q9 q10 q11 f0 f1 f2 f3 f4 f5 f6 f7 f8 f9 f10 f11
    refine Calls.mono (H2.out _ (by (repeat (refine below_set ?_ (by omega))); exact BW.out)) ?_
    rintro e w2 ⟨v9, v10, rfl, hN2, hb2⟩
    have m2 : w2.heap[w.heap.size + 1 + 1]? = some (.cells #[.int .i64 x.f0.f0, .string x.f0.f1, .int .i64 x.f0.f2, .slice B3 x.f0.f3.length Bc3, .slice B4 x.f0.f4.length Bc4, .int .i64 x.f1, .int .i64 0, .string ⟨#[]⟩, .int .i64 0, .slice none 0 0, .slice none 0 0, .slice none 0 0] 80 (0, 0)) := blk_below (by simpa using (blk_set (blk_set (blk_set (blk_set (blk_set (blk_set M2.out 0 (.int .i64 x.f0.f0)) 1 (.string x.f0.f1)) 2 (.int .i64 x.f0.f2)) 3 (.slice B3 x.f0.f3.length Bc3)) 4 (.slice B4 x.f0.f4.length Bc4)) 5 (.int .i64 x.f1))) hb2
    have m1 : w2.heap[w.heap.size + 1]? = some (.cells #[.int .i64 0, .string ⟨#[]⟩, .int .i64 0, .slice none 0 0, .slice none 0 0, .int .i64 0, .int .i64 0, .string ⟨#[]⟩, .int .i64 0, .slice none 0 0, .slice none 0 0, .slice none 0 0] 80 (0, 0)) := blk_below (by rw [Below.heap_setCell _ _ _ _ (hn1 : w.heap.size + 1 ≠ w.heap.size + 1 + 1), Below.heap_setCell _ _ _ _ (hn1 : w.heap.size + 1 ≠ w.heap.size + 1 + 1), Below.heap_setCell _ _ _ _ (hn1 : w.heap.size + 1 ≠ w.heap.size + 1 + 1), Below.heap_setCell _ _ _ _ (hn1 : w.heap.size + 1 ≠ w.heap.size + 1 + 1), Below.heap_setCell _ _ _ _ (hn1 : w.heap.size + 1 ≠ w.heap.size + 1 + 1), Below.heap_setCell _ _ _ _ (hn1 : w.heap.size + 1 ≠ w.heap.size + 1 + 1)]; exact M1.out) hb2
    have m0 : w2.heap[w.heap.size]? = some (.cells #[.int .i64 x.f0.f0, .string x.f0.f1, .int .i64 x.f0.f2, .slice A3 x.f0.f3.length Ac3, .slice A4 x.f0.f4.length Ac4, .int .i64 x.f1, .int .i64 x.f2.f0, .string x.f2.f1, .int .i64 x.f2.f2, .slice A9 x.f2.f3.length Ac9, .slice A10 x.f2.f4.length Ac10, .slice A11 x.f3.length Ac11] 78 (0, 0)) := blk_below (by rw [Below.heap_setCell _ _ _ _ (hn0 : w.heap.size ≠ w.heap.size + 1 + 1), Below.heap_setCell _ _ _ _ (hn0 : w.heap.size ≠ w.heap.size + 1 + 1), Below.heap_setCell _ _ _ _ (hn0 : w.heap.size ≠ w.heap.size + 1 + 1), Below.heap_setCell _ _ _ _ (hn0 : w.heap.size ≠ w.heap.size + 1 + 1), Below.heap_setCell _ _ _ _ (hn0 : w.heap.size ≠ w.heap.size + 1 + 1), Below.heap_setCell _ _ _ _ (hn0 : w.heap.size ≠ w.heap.size + 1 + 1)]; exact M0.out) hb2
    have hsz2 : w1.heap.size ≤ w2.heap.size := by have := hb2.size; simpa using this
    have a2 : ∀ b, w.heap.size + 3 ≤ b → b < w1.heap.size → w2.heap[b]? = w1.heap[b]? := fun b h1 h2 => (hb2.block b (by simpa using h2)).trans ((fun (hq : b ≠ w.heap.size + 1 + 1) => by skip; rw [Below.heap_setCell _ _ _ _ hq, Below.heap_setCell _ _ _ _ hq, Below.heap_setCell _ _ _ _ hq, Below.heap_setCell _ _ _ _ hq, Below.heap_setCell _ _ _ _ hq, Below.heap_setCell _ _ _ _ hq]) (by omega))
    have b2 : Below w.heap.size w w2 := below_step (by (repeat (refine below_set ?_ (by omega))); exact BW.out) hb2
    obtain ⟨B9, Bc9, B10, Bc10, rfl, rfl, s2⟩ := hN2.st
    have HS2 := Lib.hid (fun W (h : ∀ b, w.heap.size + 3 ≤ b → b < w2.heap.size → W.heap[b]? = w2.heap[b]?) => s2 W (fun b hb hl => h b (by simp at hb; omega) hl))
    replace M2 := Lib.hid m2
    replace M1 := Lib.hid m1
    replace M0 := Lib.hid m0
    replace BW := Lib.hid b2
    clear m2 m1 m0 b2
    clear hN2 s2 hb2
    obtain ⟨p0, p1, p2, p3, p4, p5, p6, p7, p8, p9, p10, p11⟩ := ht_cells M0.out
    obtain ⟨q0, q1, q2, q3, q4, q5, q6, q7, q8, q9, q10, q11⟩ := ht_cells M2.out
    obtain ⟨f0, f1, f2, f3, f4, f5, f6, f7, f8, f9, f10, f11⟩ := ht_free M2.out
    go_wp2_with fail
    clear p0 p1 p2 p3 p4 p5 p6 p7 p8 p9 p10 p11 q0 q1 q2 q3 q4 q5 q6 q7 q8 q9 q10 q11 f0 f1 f2 f3 f4 f5 f6 f7 f8 f9 f10 f11
    refine Calls.mono (H3.out _ (by (repeat (refine below_set ?_ (by omega))); exact BW.out)) ?_
    rintro e w3 ⟨B11, Bc11, rfl, hN3, hb3⟩
    have m2 : w3.heap[w.heap.size + 1 + 1]? = some (.cells #[.int .i64 x.f0.f0, .string x.f0.f1, .int .i64 x.f0.f2, .slice B3 x.f0.f3.length Bc3, .slice B4 x.f0.f4.length Bc4, .int .i64 x.f1, .int .i64 x.f2.f0, .string x.f2.f1, .int .i64 x.f2.f2, .slice B9 x.f2.f3.length Bc9, .slice B10 x.f2.f4.length Bc10, .slice none 0 0] 80 (0, 0)) := blk_below (by simpa using (blk_set (blk_set (blk_set (blk_set (blk_set M2.out 6 (.int .i64 x.f2.f0)) 7 (.string x.f2.f1)) 8 (.int .i64 x.f2.f2)) 9 (.slice B9 x.f2.f3.length Bc9)) 10 (.slice B10 x.f2.f4.length Bc10))) hb3
    have m1 : w3.heap[w.heap.size + 1]? = some (.cells #[.int .i64 0, .string ⟨#[]⟩, .int .i64 0, .slice none 0 0, .slice none 0 0, .int .i64 0, .int .i64 0, .string ⟨#[]⟩, .int .i64 0, .slice none 0 0, .slice none 0 0, .slice none 0 0] 80 (0, 0)) := blk_below (by rw [Below.heap_setCell _ _ _ _ (hn1 : w.heap.size + 1 ≠ w.heap.size + 1 + 1), Below.heap_setCell _ _ _ _ (hn1 : w.heap.size + 1 ≠ w.heap.size + 1 + 1), Below.heap_setCell _ _ _ _ (hn1 : w.heap.size + 1 ≠ w.heap.size + 1 + 1), Below.heap_setCell _ _ _ _ (hn1 : w.heap.size + 1 ≠ w.heap.size + 1 + 1), Below.heap_setCell _ _ _ _ (hn1 : w.heap.size + 1 ≠ w.heap.size + 1 + 1)]; exact M1.out) hb3
    have m0 : w3.heap[w.heap.size]? = some (.cells #[.int .i64 x.f0.f0, .string x.f0.f1, .int .i64 x.f0.f2, .slice A3 x.f0.f3.length Ac3, .slice A4 x.f0.f4.length Ac4, .int .i64 x.f1, .int .i64 x.f2.f0, .string x.f2.f1, .int .i64 x.f2.f2, .slice A9 x.f2.f3.length Ac9, .slice A10 x.f2.f4.length Ac10, .slice A11 x.f3.length Ac11] 78 (0, 0)) := blk_below (by rw [Below.heap_setCell _ _ _ _ (hn0 : w.heap.size ≠ w.heap.size + 1 + 1), Below.heap_setCell _ _ _ _ (hn0 : w.heap.size ≠ w.heap.size + 1 + 1), Below.heap_setCell _ _ _ _ (hn0 : w.heap.size ≠ w.heap.size + 1 + 1), Below.heap_setCell _ _ _ _ (hn0 : w.heap.size ≠ w.heap.size + 1 + 1), Below.heap_setCell _ _ _ _ (hn0 : w.heap.size ≠ w.heap.size + 1 + 1)]; exact M0.out) hb3
    have hsz3 : w2.heap.size ≤ w3.heap.size := by have := hb3.size; simpa using this
    have a3 : ∀ b, w.heap.size + 3 ≤ b → b < w2.heap.size → w3.heap[b]? = w2.heap[b]? := fun b h1 h2 => (hb3.block b (by simpa using h2)).trans ((fun (hq : b ≠ w.heap.size + 1 + 1) => by skip; rw [Below.heap_setCell _ _ _ _ hq, Below.heap_setCell _ _ _ _ hq, Below.heap_setCell _ _ _ _ hq, Below.heap_setCell _ _ _ _ hq, Below.heap_setCell _ _ _ _ hq]) (by omega))
    have b3 : Below w.heap.size w w3 := below_step (by (repeat (refine below_set ?_ (by omega))); exact BW.out) hb3
    have HS3 := Lib.hid (fun W (hs : w3.heap.size ≤ W.heap.size) (h : ∀ b, w.heap.size + 3 ≤ b → b < w3.heap.size → W.heap[b]? = w3.heap[b]?) => hN3.2 W hs (fun b hb hl => h b (by simp at hb; omega) hl))
    have HL3 := Lib.hid hN3.1
    replace M2 := Lib.hid m2
    replace M1 := Lib.hid m1
    replace M0 := Lib.hid m0
    replace BW := Lib.hid b3
    clear m2 m1 m0 b3
    clear hN3 hb3
    obtain ⟨p0, p1, p2, p3, p4, p5, p6, p7, p8, p9, p10, p11⟩ := ht_cells M0.out
    obtain ⟨q0, q1, q2, q3, q4, q5, q6, q7, q8, q9, q10, q11⟩ := ht_cells M2.out
    obtain ⟨f0, f1, f2, f3, f4, f5, f6, f7, f8, f9, f10, f11⟩ := ht_free M2.out
    have HTH := Lib.hid (show (w3.setCell ⟨w.heap.size + 1 + 1, 11, none⟩ (.slice B11 x.f3.length Bc11)).there (w.heap.size + 1) 0 12 from fun j hj => by
      have hk : (w3.setCell ⟨w.heap.size + 1 + 1, 11, none⟩ (.slice B11 x.f3.length Bc11)).heap[w.heap.size + 1]? = some (.cells #[.int .i64 0, .string ⟨#[]⟩, .int .i64 0, .slice none 0 0, .slice none 0 0, .int .i64 0, .int .i64 0, .string ⟨#[]⟩, .int .i64 0, .slice none 0 0, .slice none 0 0, .slice none 0 0] 80 (0, 0)) := by rw [Below.heap_setCell _ _ _ _ hn1]; exact M1.out
      refine ⟨?_, blk_frozen hk _⟩
      rw [Nat.zero_add, blk_cell hk j]
      have : j < (zc12 : List Value).length := by simpa using hj
      simp [Array.getElem?_eq_getElem, hj])
    go_wp2_with (first | ((with_reducible refine gate_store (t := 80) (p := 2) rfl ?_); refine wpList_store_mid rfl 80 (.tmp 2) (.tmp 19) rfl (w.heap.size + 1) 0 #[.int .i64 x.f0.f0, .string x.f0.f1, .int .i64 x.f0.f2, .slice B3 x.f0.f3.length Bc3, .slice B4 x.f0.f4.length Bc4, .int .i64 x.f1, .int .i64 x.f2.f0, .string x.f2.f1, .int .i64 x.f2.f2, .slice B9 x.f2.f3.length Bc9, .slice B10 x.f2.f4.length Bc10, .slice B11 x.f3.length Bc11] rfl rfl HTH.out infoSz12 (by simp [Value.oneCell']) ?_))
    clear p0 p1 p2 p3 p4 p5 p6 p7 p8 p9 p10 p11 q0 q1 q2 q3 q4 q5 q6 q7 q8 q9 q10 q11 f0 f1 f2 f3 f4 f5 f6 f7 f8 f9 f10 f11
    have mR : ((w3.setCell ⟨w.heap.size + 1 + 1, 11, none⟩ (.slice B11 x.f3.length Bc11)).setCells (w.heap.size + 1) 0 [.int .i64 x.f0.f0, .string x.f0.f1, .int .i64 x.f0.f2, .slice B3 x.f0.f3.length Bc3, .slice B4 x.f0.f4.length Bc4, .int .i64 x.f1, .int .i64 x.f2.f0, .string x.f2.f1, .int .i64 x.f2.f2, .slice B9 x.f2.f3.length Bc9, .slice B10 x.f2.f4.length Bc10, .slice B11 x.f3.length Bc11]).heap[w.heap.size + 1]? = some (.cells #[.int .i64 x.f0.f0, .string x.f0.f1, .int .i64 x.f0.f2, .slice B3 x.f0.f3.length Bc3, .slice B4 x.f0.f4.length Bc4, .int .i64 x.f1, .int .i64 x.f2.f0, .string x.f2.f1, .int .i64 x.f2.f2, .slice B9 x.f2.f3.length Bc9, .slice B10 x.f2.f4.length Bc10, .slice B11 x.f3.length Bc11] 80 (0, 0)) := by
      rw [setCells12]
      have hk : (w3.setCell ⟨w.heap.size + 1 + 1, 11, none⟩ (.slice B11 x.f3.length Bc11)).heap[w.heap.size + 1]? = some (.cells #[.int .i64 0, .string ⟨#[]⟩, .int .i64 0, .slice none 0 0, .slice none 0 0, .int .i64 0, .int .i64 0, .string ⟨#[]⟩, .int .i64 0, .slice none 0 0, .slice none 0 0, .slice none 0 0] 80 (0, 0)) := by rw [Below.heap_setCell _ _ _ _ hn1]; exact M1.out
      simpa using (blk_set (blk_set (blk_set (blk_set (blk_set (blk_set (blk_set (blk_set (blk_set (blk_set (blk_set (blk_set hk 0 (.int .i64 x.f0.f0)) 1 (.string x.f0.f1)) 2 (.int .i64 x.f0.f2)) 3 (.slice B3 x.f0.f3.length Bc3)) 4 (.slice B4 x.f0.f4.length Bc4)) 5 (.int .i64 x.f1)) 6 (.int .i64 x.f2.f0)) 7 (.string x.f2.f1)) 8 (.int .i64 x.f2.f2)) 9 (.slice B9 x.f2.f3.length Bc9)) 10 (.slice B10 x.f2.f4.length Bc10)) 11 (.slice B11 x.f3.length Bc11))
    obtain ⟨u0, u1, u2, u3, u4, u5, u6, u7, u8, u9, u10, u11⟩ := ht_cells mR
    have f1 : ∀ b, w.heap.size + 3 ≤ b → ((w3.setCell ⟨w.heap.size + 1 + 1, 11, none⟩ (.slice B11 x.f3.length Bc11)).setCells (w.heap.size + 1) 0 [.int .i64 x.f0.f0, .string x.f0.f1, .int .i64 x.f0.f2, .slice B3 x.f0.f3.length Bc3, .slice B4 x.f0.f4.length Bc4, .int .i64 x.f1, .int .i64 x.f2.f0, .string x.f2.f1, .int .i64 x.f2.f2, .slice B9 x.f2.f3.length Bc9, .slice B10 x.f2.f4.length Bc10, .slice B11 x.f3.length Bc11]).heap[b]? = w3.heap[b]? := fun b hb => by
      rw [setCells12, set12_far _ _ _ _ _ _ _ _ _ _ _ _ _ _ _ b (by omega)]
      exact Below.heap_setCell _ _ _ _ (show b ≠ w.heap.size + 1 + 1 by omega)
    have f2 : w3.heap.size ≤ ((w3.setCell ⟨w.heap.size + 1 + 1, 11, none⟩ (.slice B11 x.f3.length Bc11)).setCells (w.heap.size + 1) 0 [.int .i64 x.f0.f0, .string x.f0.f1, .int .i64 x.f0.f2, .slice B3 x.f0.f3.length Bc3, .slice B4 x.f0.f4.length Bc4, .int .i64 x.f1, .int .i64 x.f2.f0, .string x.f2.f1, .int .i64 x.f2.f2, .slice B9 x.f2.f3.length Bc9, .slice B10 x.f2.f4.length Bc10, .slice B11 x.f3.length Bc11]).heap.size := by
      rw [setCells12]
      exact Nat.le_trans (by simp) (set12_size _ _ _ _ _ _ _ _ _ _ _ _ _ _ _)
    have bF : Below w.heap.size w ((w3.setCell ⟨w.heap.size + 1 + 1, 11, none⟩ (.slice B11 x.f3.length Bc11)).setCells (w.heap.size + 1) 0 [.int .i64 x.f0.f0, .string x.f0.f1, .int .i64 x.f0.f2, .slice B3 x.f0.f3.length Bc3, .slice B4 x.f0.f4.length Bc4, .int .i64 x.f1, .int .i64 x.f2.f0, .string x.f2.f1, .int .i64 x.f2.f2, .slice B9 x.f2.f3.length Bc9, .slice B10 x.f2.f4.length Bc10, .slice B11 x.f3.length Bc11]) := by
      rw [setCells12]
      exact set12_below (below_set BW.out (by omega)) (by omega) 0 _ _ _ _ _ _ _ _ _ _ _ _
    have hF : HtS w.heap.size ((w3.setCell ⟨w.heap.size + 1 + 1, 11, none⟩ (.slice B11 x.f3.length Bc11)).setCells (w.heap.size + 1) 0 [.int .i64 x.f0.f0, .string x.f0.f1, .int .i64 x.f0.f2, .slice B3 x.f0.f3.length Bc3, .slice B4 x.f0.f4.length Bc4, .int .i64 x.f1, .int .i64 x.f2.f0, .string x.f2.f1, .int .i64 x.f2.f2, .slice B9 x.f2.f3.length Bc9, .slice B10 x.f2.f4.length Bc10, .slice B11 x.f3.length Bc11]) x B3 Bc3 B4 Bc4 B9 Bc9 B10 Bc10 B11 Bc11 := fun V hs hm => by
      have g3 : ∀ b, w.heap.size + 3 ≤ b → b < w3.heap.size → V.heap[b]? = w3.heap[b]? := fun b h1 h2 => (hm b (by omega) (by omega)).trans (f1 b h1)
      have g2 : ∀ b, w.heap.size + 3 ≤ b → b < w2.heap.size → V.heap[b]? = w2.heap[b]? := fun b h1 h2 => (g3 b h1 (by omega)).trans (a3 b h1 h2)
      have g1 : ∀ b, w.heap.size + 3 ≤ b → b < w1.heap.size → V.heap[b]? = w1.heap[b]? := fun b h1 h2 => (g2 b h1 (by omega)).trans (a2 b h1 h2)
      exact ⟨HS1.out V g1, HS2.out V g2, HL3.out, HS3.out V (by omega) g3⟩
    refine bodyPost_ret (v := .agg #[.int .i64 x.f0.f0, .string x.f0.f1, .int .i64 x.f0.f2, .slice B3 x.f0.f3.length Bc3, .slice B4 x.f0.f4.length Bc4, .int .i64 x.f1, .int .i64 x.f2.f0, .string x.f2.f1, .int .i64 x.f2.f2, .slice B9 x.f2.f3.length Bc9, .slice B10 x.f2.f4.length Bc10, .slice B11 x.f3.length Bc11]) (by simp [results, Try.results64, go_sem, u0, u1, u2, u3, u4, u5, u6, u7, u8, u9, u10, u11]) rfl ⟨_, _, _, _, _, _, _, _, _, _, rfl, hF, bF⟩
theorem toHitS_any (ks : List Ht) (A : Option Addr) (c : Nat) (w : World) (hr : kH.C w A ks.length ks) (hc : ks.length ≤ c) (ht : totH ks ≤ 1048576) :
    Calls Try.prog 30 #[.slice A ks.length c] w (GetHs w ks) := toHitS_of ks (fun k _ => toHit_any k) A c w hr hc ht
end Go.Proofs.Ytlklclebjeeaaaa
end
section
namespace Go.Proofs.Ytlklclebjeeaaaa
open Go.RowKit Go.Proofs.YtlklclebjeeaaaaW.PrintWords Go.Proofs.YtlklclebjeeaaaaW.PrintLast Go.Proofs.YtlklclebjeeaaaaW.PrintMore
set_option linter.unusedVariables false
set_option linter.unusedSimpArgs false

noncomputable def eqB {α : Type} (x y : α) : Bool := @decide (x = y) (Classical.propDecidable _)
theorem eqB_iff {α : Type} {x y : α} : eqB x y = true ↔ x = y := by unfold eqB; exact @decide_eq_true_iff _ (Classical.propDecidable _)
theorem eqB_self {α : Type} (x : α) : eqB x x = true := eqB_iff.2 rfl
theorem eqB_no {α : Type} {x y : α} (h : x ≠ y) : false = eqB x y := by
  cases hb : eqB x y with
  | true => exact absurd (eqB_iff.1 hb) h
  | false => rfl
theorem eqB_yes {α : Type} {x y : α} (h : x = y) : true = eqB x y := (eqB_iff.2 h).symm
theorem toList_inj {a b : ByteArray} (h : a.toList = b.toList) : a = b := by
  have e : ∀ s : ByteArray, s.toList = s.data.toList := fun s => by rw [ByteArray.toList_eq]
  rw [e, e] at h
  cases a; cases b
  simp only at h
  rw [Array.toList_inj.1 h]
theorem Fm.ext' {x y : Fm} (h1 : x.f0 = y.f0) (h2 : x.f1 = y.f1) (h3 : x.f2 = y.f2) (h4 : x.f3 = y.f3) (h5 : x.f4 = y.f4) : x = y := by
  cases x; cases y; simp_all
def EqForm (x : Fm) : Prop := ∀ (y : Fm) (A3 : Option Addr) (c3 : Nat) (A4 : Option Addr) (c4 : Nat) (B3 : Option Addr) (d3 : Nat) (B4 : Option Addr) (d4 : Nat) (w : World), FmIn w x A3 c3 A4 c4 → FmIn w y B3 d3 B4 d4 →
    Calls Try.prog 18 #[.agg #[.int .i64 x.f0, .string x.f1, .int .i64 x.f2, .slice A3 x.f3.length c3, .slice A4 x.f4.length c4], .agg #[.int .i64 y.f0, .string y.f1, .int .i64 y.f2, .slice B3 y.f3.length d3, .slice B4 y.f4.length d4]] w (Ret w (.bool (eqB x y)))
set_option maxHeartbeats 4000000 in
set_option maxRecDepth 100000 in
theorem eqFormS_of (ks ls : List Fm) (hks : ∀ k, k ∈ ks → EqForm k) (A B : Option Addr) (c d : Nat) (w : World) (hr : kF.C w A ks.length ks) (hc : ks.length ≤ c) (hr2 : kF.C w B ls.length ls) (hc2 : ls.length ≤ d) :
    Calls Try.prog 39 #[.slice A ks.length c, .slice B ls.length d] w (Ret w (.bool (eqB ks ls))) := by
  have hmax := hr.2.1
  by_cases hl : ks.length = ls.length
  · have hl1 : ((ks.length : Int) == (ls.length : Int)) = true := by simp [hl]
    have hl2 : ((ks.length : Int) != (ls.length : Int)) = false := by simp [hl]
    have hl3 : (ks.length == ls.length) = true := by simp [hl]
    have hl4 : (ks.length != ls.length) = false := by simp [hl]
    have HL := Lib.hid hl
    have HK := Lib.hid hks
    clear hl hks
    go_enter Try.func39, Try.ntmps39
    go_wp2_with fail
    go_loopg [5] ks.length (fun kq v5 w' => ∃ i : Nat, i ≤ ks.length ∧ ks.length - i ≤ kq ∧ v5 = .int .i64 i ∧ Aside0 (∀ j (h : j < ks.length) (h2 : j < ls.length), j < i → ks[j] = ls[j]) ∧ Aside0 (Below w.heap.size w w'))
    case atStart => exact ⟨0, Nat.zero_le _, by omega, rfl, ⟨fun j _ _ h => absurd h (by omega)⟩, ⟨Below.refl _ _⟩⟩
    case round =>
      obtain ⟨i, hi, hg, rfl, HN, HW⟩ := hrel
      by_cases hlt : i < ks.length
      · have hlt2 : i < ls.length := by have := HL.out; omega
        obtain ⟨ad, B3, d3, B4, d4, e, g0, g1, g2, g3, g4, hk⟩ := kid_at (Kd.C_below hr HW.out) i hlt
        subst e
        obtain ⟨ad2, E3, f3, E4, f4, e2, h0, h1, h2, h3, h4, hk2⟩ := kid_at (Kd.C_below hr2 HW.out) i hlt2
        subst e2
        have HC := Lib.hid (fun W (hb : Below wr.heap.size wr W) => HK.out ks[i] (List.getElem_mem hlt) ls[i] B3 d3 B4 d4 E3 f3 E4 f4 W (hk.below hb) (hk2.below hb))
        clear hk hk2
        have p1 : (0 : Int) ≤ (i : Int) := by omega
        have p2 : (i : Int) < (ks.length : Int) := by omega
        have p3 : (i : Int) < (ls.length : Int) := by omega
        go_wp2_with fail
        go_region_held3 (fun w' => w'.cell? (ad.add (i * 5)) = some (.int .i64 ks[i].f0) ∧ w'.cell? ⟨(ad.add (i * 5)).block, (ad.add (i * 5)).off + 1, none⟩ = some (.string ks[i].f1) ∧ w'.cell? ⟨(ad.add (i * 5)).block, (ad.add (i * 5)).off + 2, none⟩ = some (.int .i64 ks[i].f2) ∧ w'.cell? ⟨(ad.add (i * 5)).block, (ad.add (i * 5)).off + 3, none⟩ = some (.slice B3 ks[i].f3.length d3) ∧ w'.cell? ⟨(ad.add (i * 5)).block, (ad.add (i * 5)).off + 4, none⟩ = some (.slice B4 ks[i].f4.length d4) ∧ w'.cell? (ad2.add (i * 5)) = some (.int .i64 ls[i].f0) ∧ w'.cell? ⟨(ad2.add (i * 5)).block, (ad2.add (i * 5)).off + 1, none⟩ = some (.string ls[i].f1) ∧ w'.cell? ⟨(ad2.add (i * 5)).block, (ad2.add (i * 5)).off + 2, none⟩ = some (.int .i64 ls[i].f2) ∧ w'.cell? ⟨(ad2.add (i * 5)).block, (ad2.add (i * 5)).off + 3, none⟩ = some (.slice E3 ls[i].f3.length f3) ∧ w'.cell? ⟨(ad2.add (i * 5)).block, (ad2.add (i * 5)).off + 4, none⟩ = some (.slice E4 ls[i].f4.length f4)) (first | go_keep | exact ⟨ck hb1 g0, ck hb1 g1, ck hb1 g2, ck hb1 g3, ck hb1 g4, ck hb1 h0, ck hb1 h1, ck hb1 h2, ck hb1 h3, ck hb1 h4⟩) ((go_at_call 18; refine (HC.out _ (Below.refl _ _).drew).mono ?_; rintro e w1 ⟨rfl, hb1⟩))
        cases he : eqB ks[i] ls[i] with
        | true =>
          have HE := Lib.hid (eqB_iff.1 he)
          clear he
          go_wp2_with fail
          go_roundg (ks.length - (i + 1))
          case measure => omega
          case rel =>
            refine ⟨i + 1, by omega, Nat.le_refl _, by go_num, ⟨fun j hj hj2 hji => ?_⟩, ⟨below_step HW.out (below_step (Below.refl _ _).drew hb1)⟩⟩
            rcases Nat.lt_or_ge j i with h | h
            · exact HN.out j hj hj2 h
            · obtain rfl : j = i := by omega
              exact HE.out
        | false =>
          have HE := Lib.hid he
          clear he
          go_wp2_with fail
          go_ret
          refine ⟨ret_b (eqB_no (fun h => ?_)), below_step HW.out (below_step (Below.refl _ _).drew hb1)⟩
          have := HE.out
          subst h
          rw [eqB_self] at this
          cases this
      · obtain rfl : i = ks.length := by omega
        go_wp2_with fail
        go_ret
        exact ⟨ret_b (eqB_yes (List.ext_getElem HL.out (fun j hj hj2 => HN.out j hj hj2 hj))), HW.out⟩
  · have hl2 : ((ks.length : Int) != (ls.length : Int)) = true := by simp; omega
    have hl4 : (ks.length != ls.length) = true := by simp [hl]
    have hl1 : ((ks.length : Int) == (ls.length : Int)) = false := by rw [beq_eq_false_iff_ne]; omega
    have hl3 : (ks.length == ls.length) = false := by rw [beq_eq_false_iff_ne]; omega
    have HL := Lib.hid hl
    clear hl
    go_enter Try.func39, Try.ntmps39
    go_wp2_with fail
    go_ret
    exact ⟨ret_b (eqB_no (fun h => HL.out (by rw [h]))), Below.refl _ _⟩
set_option maxHeartbeats 4000000 in
theorem eqForm_any (x : Fm) : EqForm x := by
  induction x using Fm.ind with
  | h x ih =>
    intro y A3 c3 A4 c4 B3 d3 B4 d4 w hx hy
    have HX := Lib.hid (fun (h1 : x.f0 = y.f0) (h2 : x.f1 = y.f1) (h3 : x.f2 = y.f2) (h4 : x.f3 = y.f3) (h5 : x.f4 = y.f4) => Fm.ext' h1 h2 h3 h4 h5)
    have hb1 := below_new w (.cells #[.int .i64 x.f0, .string x.f1, .int .i64 x.f2, .slice A3 x.f3.length c3, .slice A4 x.f4.length c4] 34)
    have hb2 := below_step hb1 (below_new _ (.cells #[.int .i64 y.f0, .string y.f1, .int .i64 y.f2, .slice B3 y.f3.length d3, .slice B4 y.f4.length d4] 34))
    have HB := Lib.hid hb2
    by_cases e1 : x.f0 = y.f0
    · have t1 : (x.f0 == y.f0) = true := by simpa using e1
      have t1' : (x.f0 != y.f0) = false := by simpa using e1
      have E1 := Lib.hid e1
      clear e1
      by_cases e2 : x.f1 = y.f1
      · have t2 : (x.f1.toList == y.f1.toList) = true := by rw [e2]; simp
        have t2' : (x.f1.toList != y.f1.toList) = false := by rw [e2]; simp
        have E2 := Lib.hid e2
        clear e2
        by_cases e3 : x.f2 = y.f2
        · have t3 : (x.f2 == y.f2) = true := by simpa using e3
          have t3' : (x.f2 != y.f2) = false := by simpa using e3
          have E3 := Lib.hid e3
          clear e3
          have HC := Lib.hid (eqIntS_any x.f3 y.f3 A3 B3 c3 d3 _ (Kd.C_below hx.g3 hb2) hx.l3 (Kd.C_below hy.g3 hb2) hy.l3)
          have HK := Lib.hid (fun W hb => eqFormS_of x.f4 y.f4 ih A4 B4 c4 d4 W (Kd.C_below hx.g4 hb) hx.l4 (Kd.C_below hy.g4 hb) hy.l4)
          clear ih hx hy hb1 hb2
          go_enter Try.func18, Try.ntmps18
          go_wp2_with fail
          refine HC.out.mono ?_
          rintro e w1 ⟨rfl, k1⟩
          have hz := blk_below (blk_below (blk_new w (.cells #[.int .i64 x.f0, .string x.f1, .int .i64 x.f2, .slice A3 x.f3.length c3, .slice A4 x.f4.length c4] 34)) (below_new _ _)) k1
          have hz2 := blk_below (blk_new (w.alloc (.cells #[.int .i64 x.f0, .string x.f1, .int .i64 x.f2, .slice A3 x.f3.length c3, .slice A4 x.f4.length c4] 34)) (.cells #[.int .i64 y.f0, .string y.f1, .int .i64 y.f2, .slice B3 y.f3.length d3, .slice B4 y.f4.length d4] 34)) k1
          rw [show (w.alloc (.cells #[.int .i64 x.f0, .string x.f1, .int .i64 x.f2, .slice A3 x.f3.length c3, .slice A4 x.f4.length c4] 34)).heap.size = w.heap.size + 1 from by simp] at hz2
          obtain ⟨_, _, _, _, q4⟩ := fm_cells hz
          obtain ⟨_, _, _, _, r4⟩ := fm_cells hz2
          have K1 := Lib.hid (below_step HB.out k1)
          clear hz hz2 k1
          by_cases e4 : x.f3 = y.f3
          · have E4 := Lib.hid e4
            rw [decide_eq_true e4]
            clear e4
            go_wp2_with fail
            refine (HK.out _ K1.out).mono ?_
            rintro e w2 ⟨rfl, k2⟩
            cases e5 : eqB x.f4 y.f4 with
            | true =>
              have E5 := Lib.hid (eqB_iff.1 e5)
              clear e5
              go_wp2_with fail
              go_ret
              exact ⟨ret_b (eqB_yes (HX.out E1.out E2.out E3.out E4.out E5.out)), below_step K1.out k2⟩
            | false =>
              have E5 := Lib.hid e5
              clear e5
              go_wp2_with fail
              go_ret
              refine ⟨ret_b (eqB_no (fun h => ?_)), below_step K1.out k2⟩
              have := E5.out
              rw [h, eqB_self] at this
              cases this
          · have E4 := Lib.hid e4
            rw [decide_eq_false e4]
            clear e4
            go_wp2_with fail
            go_ret
            exact ⟨ret_b (eqB_no (fun h => E4.out (by rw [h]))), K1.out⟩
        · have t3 : (x.f2 == y.f2) = false := by simpa using e3
          have t3' : (x.f2 != y.f2) = true := by simpa using e3
          have E3 := Lib.hid e3
          clear e3 ih hx hy hb1 hb2
          go_enter Try.func18, Try.ntmps18
          go_wp2_with fail
          go_ret
          exact ⟨ret_b (eqB_no (fun h => E3.out (by rw [h]))), HB.out⟩
      · have t2 : (x.f1.toList == y.f1.toList) = false := by rw [beq_eq_false_iff_ne]; exact fun h => e2 (toList_inj h)
        have t2' : (x.f1.toList != y.f1.toList) = true := by rw [bne_iff_ne]; exact fun h => e2 (toList_inj h)
        have E2 := Lib.hid e2
        clear e2 ih hx hy hb1 hb2
        go_enter Try.func18, Try.ntmps18
        go_wp2_with fail
        go_ret
        exact ⟨ret_b (eqB_no (fun h => E2.out (by rw [h]))), HB.out⟩
    · have t1 : (x.f0 == y.f0) = false := by simpa using e1
      have t1' : (x.f0 != y.f0) = true := by simpa using e1
      have E1 := Lib.hid e1
      clear e1 ih hx hy hb1 hb2
      go_enter Try.func18, Try.ntmps18
      go_wp2_with fail
      go_ret
      exact ⟨ret_b (eqB_no (fun h => E1.out (by rw [h]))), HB.out⟩
end Go.Proofs.Ytlklclebjeeaaaa
end
section
namespace Go.Proofs.Ytlklclebjeeaaaa
open Go.RowKit Go.Proofs.YtlklclebjeeaaaaW.PrintWords Go.Proofs.YtlklclebjeeaaaaW.PrintLast Go.Proofs.YtlklclebjeeaaaaW.PrintMore
set_option linter.unusedVariables false
set_option linter.unusedSimpArgs false
def EqHit (x : Ht) : Prop := ∀ (A3 : Option Addr) (Ac3 : Nat) (A4 : Option Addr) (Ac4 : Nat) (A9 : Option Addr) (Ac9 : Nat) (A10 : Option Addr) (Ac10 : Nat) (A11 : Option Addr) (Ac11 : Nat) (B3 : Option Addr) (Bc3 : Nat) (B4 : Option Addr) (Bc4 : Nat) (B9 : Option Addr) (Bc9 : Nat) (B10 : Option Addr) (Bc10 : Nat) (B11 : Option Addr) (Bc11 : Nat) (w : World), HtIn w x A3 Ac3 A4 Ac4 A9 Ac9 A10 Ac10 A11 Ac11 → HtIn w x B3 Bc3 B4 Bc4 B9 Bc9 B10 Bc10 B11 Bc11 →
    Calls Try.prog 67 #[.agg #[.int .i64 x.f0.f0, .string x.f0.f1, .int .i64 x.f0.f2, .slice A3 x.f0.f3.length Ac3, .slice A4 x.f0.f4.length Ac4, .int .i64 x.f1, .int .i64 x.f2.f0, .string x.f2.f1, .int .i64 x.f2.f2, .slice A9 x.f2.f3.length Ac9, .slice A10 x.f2.f4.length Ac10, .slice A11 x.f3.length Ac11], .agg #[.int .i64 x.f0.f0, .string x.f0.f1, .int .i64 x.f0.f2, .slice B3 x.f0.f3.length Bc3, .slice B4 x.f0.f4.length Bc4, .int .i64 x.f1, .int .i64 x.f2.f0, .string x.f2.f1, .int .i64 x.f2.f2, .slice B9 x.f2.f3.length Bc9, .slice B10 x.f2.f4.length Bc10, .slice B11 x.f3.length Bc11]] w (Ret w (.bool true))
set_option maxHeartbeats 4000000 in
set_option maxRecDepth 100000 in
theorem eqHitS_of (ks : List Ht) (hks : ∀ k, k ∈ ks → EqHit k) (A B : Option Addr) (c d : Nat) (w : World) (hr : kH.C w A ks.length ks) (hc : ks.length ≤ c) (hr2 : kH.C w B ks.length ks) (hc2 : ks.length ≤ d) :
    Calls Try.prog 32 #[.slice A ks.length c, .slice B ks.length d] w (Ret w (.bool true)) := by
  have hmax := hr.2.1
  have HK := Lib.hid hks
  clear hks
  go_enter Try.func32, Try.ntmps32
  go_wp2_with fail
  go_loopg [5] ks.length (fun kq v5 w' => ∃ i : Nat, i ≤ ks.length ∧ ks.length - i ≤ kq ∧ v5 = .int .i64 i ∧ Aside0 (Below w.heap.size w w'))
  case atStart => exact ⟨0, Nat.zero_le _, by omega, rfl, ⟨Below.refl _ _⟩⟩
  case round =>
    obtain ⟨i, hi, hg, rfl, HW⟩ := hrel
    by_cases hlt : i < ks.length
    · obtain ⟨ad, X3, Xc3, X4, Xc4, X9, Xc9, X10, Xc10, X11, Xc11, e, hcl, hk⟩ := ht_at (Kd.C_below hr HW.out) i hlt
      subst e
      obtain ⟨g0, g1, g2, g3, g4, g5, g6, g7, g8, g9, g10, g11⟩ := ht_cells_at hcl
      clear hcl
      obtain ⟨ad2, Y3, Yc3, Y4, Yc4, Y9, Yc9, Y10, Yc10, Y11, Yc11, e2, hcl, hk2⟩ := ht_at (Kd.C_below hr2 HW.out) i hlt
      subst e2
      obtain ⟨h0, h1, h2, h3, h4, h5, h6, h7, h8, h9, h10, h11⟩ := ht_cells_at hcl
      clear hcl
      have HC := Lib.hid (fun W (hb : Below wr.heap.size wr W) => HK.out ks[i] (List.getElem_mem hlt) X3 Xc3 X4 Xc4 X9 Xc9 X10 Xc10 X11 Xc11 Y3 Yc3 Y4 Yc4 Y9 Yc9 Y10 Yc10 Y11 Yc11 W (hk.below hb) (hk2.below hb))
      clear hk hk2
      have p1 : (0 : Int) ≤ (i : Int) := by omega
      have p2 : (i : Int) < (ks.length : Int) := by omega
      go_wp2_with fail
      go_region_held3 (fun w' => w'.cell? (ad.add (i * 12)) = some (.int .i64 ks[i].f0.f0) ∧ w'.cell? ⟨(ad.add (i * 12)).block, (ad.add (i * 12)).off + 1, none⟩ = some (.string ks[i].f0.f1) ∧ w'.cell? ⟨(ad.add (i * 12)).block, (ad.add (i * 12)).off + 2, none⟩ = some (.int .i64 ks[i].f0.f2) ∧ w'.cell? ⟨(ad.add (i * 12)).block, (ad.add (i * 12)).off + 3, none⟩ = some (.slice X3 ks[i].f0.f3.length Xc3) ∧ w'.cell? ⟨(ad.add (i * 12)).block, (ad.add (i * 12)).off + 4, none⟩ = some (.slice X4 ks[i].f0.f4.length Xc4) ∧ w'.cell? ⟨(ad.add (i * 12)).block, (ad.add (i * 12)).off + 5, none⟩ = some (.int .i64 ks[i].f1) ∧ w'.cell? ⟨(ad.add (i * 12)).block, (ad.add (i * 12)).off + 6, none⟩ = some (.int .i64 ks[i].f2.f0) ∧ w'.cell? ⟨(ad.add (i * 12)).block, (ad.add (i * 12)).off + 7, none⟩ = some (.string ks[i].f2.f1) ∧ w'.cell? ⟨(ad.add (i * 12)).block, (ad.add (i * 12)).off + 8, none⟩ = some (.int .i64 ks[i].f2.f2) ∧ w'.cell? ⟨(ad.add (i * 12)).block, (ad.add (i * 12)).off + 9, none⟩ = some (.slice X9 ks[i].f2.f3.length Xc9) ∧ w'.cell? ⟨(ad.add (i * 12)).block, (ad.add (i * 12)).off + 10, none⟩ = some (.slice X10 ks[i].f2.f4.length Xc10) ∧ w'.cell? ⟨(ad.add (i * 12)).block, (ad.add (i * 12)).off + 11, none⟩ = some (.slice X11 ks[i].f3.length Xc11) ∧ w'.cell? (ad2.add (i * 12)) = some (.int .i64 ks[i].f0.f0) ∧ w'.cell? ⟨(ad2.add (i * 12)).block, (ad2.add (i * 12)).off + 1, none⟩ = some (.string ks[i].f0.f1) ∧ w'.cell? ⟨(ad2.add (i * 12)).block, (ad2.add (i * 12)).off + 2, none⟩ = some (.int .i64 ks[i].f0.f2) ∧ w'.cell? ⟨(ad2.add (i * 12)).block, (ad2.add (i * 12)).off + 3, none⟩ = some (.slice Y3 ks[i].f0.f3.length Yc3) ∧ w'.cell? ⟨(ad2.add (i * 12)).block, (ad2.add (i * 12)).off + 4, none⟩ = some (.slice Y4 ks[i].f0.f4.length Yc4) ∧ w'.cell? ⟨(ad2.add (i * 12)).block, (ad2.add (i * 12)).off + 5, none⟩ = some (.int .i64 ks[i].f1) ∧ w'.cell? ⟨(ad2.add (i * 12)).block, (ad2.add (i * 12)).off + 6, none⟩ = some (.int .i64 ks[i].f2.f0) ∧ w'.cell? ⟨(ad2.add (i * 12)).block, (ad2.add (i * 12)).off + 7, none⟩ = some (.string ks[i].f2.f1) ∧ w'.cell? ⟨(ad2.add (i * 12)).block, (ad2.add (i * 12)).off + 8, none⟩ = some (.int .i64 ks[i].f2.f2) ∧ w'.cell? ⟨(ad2.add (i * 12)).block, (ad2.add (i * 12)).off + 9, none⟩ = some (.slice Y9 ks[i].f2.f3.length Yc9) ∧ w'.cell? ⟨(ad2.add (i * 12)).block, (ad2.add (i * 12)).off + 10, none⟩ = some (.slice Y10 ks[i].f2.f4.length Yc10) ∧ w'.cell? ⟨(ad2.add (i * 12)).block, (ad2.add (i * 12)).off + 11, none⟩ = some (.slice Y11 ks[i].f3.length Yc11)) (first | go_keep | exact ⟨ck hb1 g0, ck hb1 g1, ck hb1 g2, ck hb1 g3, ck hb1 g4, ck hb1 g5, ck hb1 g6, ck hb1 g7, ck hb1 g8, ck hb1 g9, ck hb1 g10, ck hb1 g11, ck hb1 h0, ck hb1 h1, ck hb1 h2, ck hb1 h3, ck hb1 h4, ck hb1 h5, ck hb1 h6, ck hb1 h7, ck hb1 h8, ck hb1 h9, ck hb1 h10, ck hb1 h11⟩) ((go_at_call 67; refine (HC.out _ (Below.refl _ _).drew).mono ?_; rintro e w1 ⟨rfl, hb1⟩))
      have HB := Lib.hid (below_step HW.out (below_step (Below.refl _ _).drew hb1))
      clear hb1 g0 g1 g2 g3 g4 g5 g6 g7 g8 g9 g10 g11 h0 h1 h2 h3 h4 h5 h6 h7 h8 h9 h10 h11
      go_wp2_with fail
      go_roundg (ks.length - (i + 1))
      case measure => omega
      case rel => exact ⟨i + 1, by omega, Nat.le_refl _, by go_num, ⟨HB.out⟩⟩
    · obtain rfl : i = ks.length := by omega
      go_wp2_with fail
      go_ret
      exact ⟨rfl, HW.out⟩
set_option maxHeartbeats 4000000 in
set_option maxRecDepth 100000 in
theorem eqHit_any (x : Ht) : EqHit x := by
  induction x using Ht.ind with
  | h x ih =>
    intro A3 Ac3 A4 Ac4 A9 Ac9 A10 Ac10 A11 Ac11 B3 Bc3 B4 Bc4 B9 Bc9 B10 Bc10 B11 Bc11 w hx hy
    obtain ⟨k1, k2, hb0⟩ := two_new (Below.refl ((w.alloc (.cells #[.int .i64 x.f0.f0, .string x.f0.f1, .int .i64 x.f0.f2, .slice A3 x.f0.f3.length Ac3, .slice A4 x.f0.f4.length Ac4, .int .i64 x.f1, .int .i64 x.f2.f0, .string x.f2.f1, .int .i64 x.f2.f2, .slice A9 x.f2.f3.length Ac9, .slice A10 x.f2.f4.length Ac10, .slice A11 x.f3.length Ac11] 80)).alloc (.cells #[.int .i64 x.f0.f0, .string x.f0.f1, .int .i64 x.f0.f2, .slice B3 x.f0.f3.length Bc3, .slice B4 x.f0.f4.length Bc4, .int .i64 x.f1, .int .i64 x.f2.f0, .string x.f2.f1, .int .i64 x.f2.f2, .slice B9 x.f2.f3.length Bc9, .slice B10 x.f2.f4.length Bc10, .slice B11 x.f3.length Bc11] 80)).heap.size ((w.alloc (.cells #[.int .i64 x.f0.f0, .string x.f0.f1, .int .i64 x.f0.f2, .slice A3 x.f0.f3.length Ac3, .slice A4 x.f0.f4.length Ac4, .int .i64 x.f1, .int .i64 x.f2.f0, .string x.f2.f1, .int .i64 x.f2.f2, .slice A9 x.f2.f3.length Ac9, .slice A10 x.f2.f4.length Ac10, .slice A11 x.f3.length Ac11] 80)).alloc (.cells #[.int .i64 x.f0.f0, .string x.f0.f1, .int .i64 x.f0.f2, .slice B3 x.f0.f3.length Bc3, .slice B4 x.f0.f4.length Bc4, .int .i64 x.f1, .int .i64 x.f2.f0, .string x.f2.f1, .int .i64 x.f2.f2, .slice B9 x.f2.f3.length Bc9, .slice B10 x.f2.f4.length Bc10, .slice B11 x.f3.length Bc11] 80)))
    have HB := Lib.hid hb0
    have HA := Lib.hid k1
    have HBx := Lib.hid k2
    clear k1 k2 hb0
    have hd1 : (x.f1 == x.f1) = true := by simp
    have hd2 : (x.f1 != x.f1) = false := by simp
    have HN := Lib.hid (fun W hb => eqForm_any x.f0 x.f0 A3 Ac3 A4 Ac4 B3 Bc3 B4 Bc4 W (hx.n.below hb) (hy.n.below hb))
    have HO := Lib.hid (fun W hb => eqForm_any x.f2 x.f2 A9 Ac9 A10 Ac10 B9 Bc9 B10 Bc10 W (hx.o.below hb) (hy.o.below hb))
    have HS := Lib.hid (fun W hb => eqHitS_of x.f3 ih A11 B11 Ac11 Bc11 W (Kd.C_below hx.gm hb) hx.lm (Kd.C_below hy.gm hb) hy.lm)
    clear hx hy ih
    obtain ⟨p0, p1, p2, p3, p4, p5, p6, p7, p8, p9, p10, p11⟩ := ht_cells HA.out
    obtain ⟨q0, q1, q2, q3, q4, q5, q6, q7, q8, q9, q10, q11⟩ := ht_cells HBx.out
    go_enter Try.func67, Try.ntmps67
    go_wp2_with fail
    refine (HN.out _ HB.out).mono ?_
    rintro e w1 ⟨rfl, b⟩
    rw [eqB_self]
    replace HA := Lib.hid (blk_below HA.out b)
    replace HBx := Lib.hid (blk_below HBx.out b)
    replace HB := Lib.hid (below_step HB.out b)
    clear b p0 p1 p2 p3 p4 p5 p6 p7 p8 p9 p10 p11 q0 q1 q2 q3 q4 q5 q6 q7 q8 q9 q10 q11
    obtain ⟨p0, p1, p2, p3, p4, p5, p6, p7, p8, p9, p10, p11⟩ := ht_cells HA.out
    obtain ⟨q0, q1, q2, q3, q4, q5, q6, q7, q8, q9, q10, q11⟩ := ht_cells HBx.out
    go_wp2_with fail
    refine (HO.out _ HB.out).mono ?_
    rintro e w2 ⟨rfl, b⟩
    rw [eqB_self]
    replace HA := Lib.hid (blk_below HA.out b)
    replace HBx := Lib.hid (blk_below HBx.out b)
    replace HB := Lib.hid (below_step HB.out b)
    clear b p0 p1 p2 p3 p4 p5 p6 p7 p8 p9 p10 p11 q0 q1 q2 q3 q4 q5 q6 q7 q8 q9 q10 q11
    obtain ⟨p0, p1, p2, p3, p4, p5, p6, p7, p8, p9, p10, p11⟩ := ht_cells HA.out
    obtain ⟨q0, q1, q2, q3, q4, q5, q6, q7, q8, q9, q10, q11⟩ := ht_cells HBx.out
    go_wp2_with fail
    refine (HS.out _ HB.out).mono ?_
    rintro e w3 ⟨rfl, b⟩
    replace HB := Lib.hid (below_step HB.out b)
    clear b p0 p1 p2 p3 p4 p5 p6 p7 p8 p9 p10 p11 q0 q1 q2 q3 q4 q5 q6 q7 q8 q9 q10 q11
    go_wp2_with fail
    go_ret
    exact ⟨rfl, HB.out⟩
theorem eqHitS_any (ks : List Ht) (A B : Option Addr) (c d : Nat) (w : World) (hr : kH.C w A ks.length ks) (hc : ks.length ≤ c) (hr2 : kH.C w B ks.length ks) (hc2 : ks.length ≤ d) :
    Calls Try.prog 32 #[.slice A ks.length c, .slice B ks.length d] w (Ret w (.bool true)) := eqHitS_of ks (fun k _ => eqHit_any k) A B c d w hr hc hr2 hc2
end Go.Proofs.Ytlklclebjeeaaaa
end
section
namespace Go.Proofs.Ytlklclebjeeaaaa
open Go.RowKit Go.Proofs.YtlklclebjeeaaaaW.PrintWords Go.Proofs.YtlklclebjeeaaaaW.PrintLast Go.Proofs.YtlklclebjeeaaaaW.PrintMore
set_option linter.unusedVariables false
set_option linter.unusedSimpArgs false

set_option maxHeartbeats 1000000 in
theorem l1Ints_any (xs ys : List Int) (A B : Option Addr) (c d : Nat) (w : World) (hr : kI.C w A xs.length xs) (hc : xs.length ≤ c) (hr2 : kI.C w B ys.length ys) (hc2 : ys.length ≤ d) :
    Calls Try.prog 81 #[.slice A xs.length c, .slice B ys.length d] w (Ret w (.bool (decide (xs = ys)))) := by
  have hmax := hr.2.1
  by_cases hl : xs.length = ys.length
  · have hl1 : ((xs.length : Int) == (ys.length : Int)) = true := by simp [hl]
    have hl2 : ((xs.length : Int) != (ys.length : Int)) = false := by simp [hl]
    have hl3 : (xs.length == ys.length) = true := by simp [hl]
    have hl4 : (xs.length != ys.length) = false := by simp [hl]
    have HL := Lib.hid hl
    clear hl
    go_enter Try.func81, Try.ntmps81
    go_wp2_with fail
    go_loopg [5] xs.length (fun kq v5 w' => ∃ i : Nat, i ≤ xs.length ∧ xs.length - i ≤ kq ∧ v5 = .int .i64 i ∧ Aside0 (∀ j (h : j < xs.length) (h2 : j < ys.length), j < i → xs[j] = ys[j]) ∧ Aside0 (Below w.heap.size w w'))
    case atStart => exact ⟨0, Nat.zero_le _, by omega, rfl, ⟨fun j _ _ h => absurd h (by omega)⟩, ⟨Below.refl _ _⟩⟩
    case round =>
      obtain ⟨i, hi, hg, rfl, HN, HW⟩ := hrel
      by_cases hlt : i < xs.length
      · have hlt2 : i < ys.length := by have := HL.out; omega
        obtain ⟨ad, e, hcell⟩ := int_at (Kd.C_below hr HW.out) i hlt
        subst e
        obtain ⟨ad2, e2, hcell2⟩ := int_at (Kd.C_below hr2 HW.out) i hlt2
        subst e2
        by_cases he : xs[i] = ys[i]
        · have hb1 : (xs[i] == ys[i]) = true := by simpa using he
          have hb2 : (xs[i] != ys[i]) = false := by simpa using he
          have HE := Lib.hid he
          clear he
          go_wp2_with fail
          go_quiet (fail)
          go_wp2_with fail
          go_roundg (xs.length - (i + 1))
          case measure => omega
          case rel =>
            refine ⟨i + 1, by omega, Nat.le_refl _, by go_num, ⟨fun j hj hj2 hji => ?_⟩, ⟨pw_below_drewN HW.out _⟩⟩
            rcases Nat.lt_or_ge j i with h | h
            · exact HN.out j hj hj2 h
            · obtain rfl : j = i := by omega
              exact HE.out
        · have hb1 : (xs[i] == ys[i]) = false := by simpa using he
          have hb2 : (xs[i] != ys[i]) = true := by simpa using he
          have HE := Lib.hid he
          clear he
          go_wp2_with fail
          go_quiet (fail)
          go_wp2_with fail
          go_ret
          refine ⟨ret_b (decide_eq_false (fun h => HE.out ?_)).symm, pw_below_drewN HW.out _⟩
          subst h
          rfl
      · obtain rfl : i = xs.length := by omega
        go_wp2_with fail
        go_ret
        refine ⟨ret_b (decide_eq_true (List.ext_getElem HL.out (fun j hj hj2 => HN.out j hj hj2 hj))).symm, HW.out⟩
  · have hl1 : ((xs.length : Int) == (ys.length : Int)) = false := by simp; omega
    have hl2 : ((xs.length : Int) != (ys.length : Int)) = true := by simp; omega
    have hl3 : (xs.length == ys.length) = false := by simp [hl]
    have hl4 : (xs.length != ys.length) = true := by simp [hl]
    have HL := Lib.hid hl
    clear hl
    go_enter Try.func81, Try.ntmps81
    go_wp2_with fail
    go_ret
    exact ⟨ret_b (decide_eq_false (fun h => HL.out (by rw [h]))).symm, Below.refl _ _⟩
set_option maxHeartbeats 1000000 in
theorem equalI_any (xs ys : List Int) (A B : Option Addr) (c d : Nat) (w : World) (hr : kI.C w A xs.length xs) (hc : xs.length ≤ c) (hr2 : kI.C w B ys.length ys) (hc2 : ys.length ≤ d) :
    Calls Try.prog 89 #[.slice A xs.length c, .slice B ys.length d] w (Ret w (.bool (decide (xs = ys)))) := by
  have hmax := hr.2.1
  by_cases hl : xs.length = ys.length
  · have hl1 : ((xs.length : Int) == (ys.length : Int)) = true := by simp [hl]
    have hl2 : ((xs.length : Int) != (ys.length : Int)) = false := by simp [hl]
    have hl3 : (xs.length == ys.length) = true := by simp [hl]
    have hl4 : (xs.length != ys.length) = false := by simp [hl]
    have HL := Lib.hid hl
    clear hl
    go_enter Try.func89, Try.ntmps89
    go_wp2_with fail
    go_loopg [5, 13] xs.length (fun kq v5 v13 w' => ∃ i : Nat, i ≤ xs.length ∧ xs.length - i ≤ kq ∧ v13 = .int .i64 i ∧ Aside0 (∀ j (h : j < xs.length) (h2 : j < ys.length), j < i → xs[j] = ys[j]) ∧ Aside0 (Below w.heap.size w w'))
    case atStart => exact ⟨0, Nat.zero_le _, by omega, rfl, ⟨fun j _ _ h => absurd h (by omega)⟩, ⟨Below.refl _ _⟩⟩
    case round =>
      obtain ⟨i, hi, hg, rfl, HN, HW⟩ := hrel
      by_cases hlt : i < xs.length
      · have hlt2 : i < ys.length := by have := HL.out; omega
        obtain ⟨ad, e, hcell⟩ := int_at (Kd.C_below hr HW.out) i hlt
        subst e
        obtain ⟨ad2, e2, hcell2⟩ := int_at (Kd.C_below hr2 HW.out) i hlt2
        subst e2
        by_cases he : xs[i] = ys[i]
        · have hb1 : (xs[i] == ys[i]) = true := by simpa using he
          have hb2 : (xs[i] != ys[i]) = false := by simpa using he
          have HE := Lib.hid he
          clear he
          go_wp2_with fail
          go_quiet (fail)
          go_wp2_with fail
          go_roundg (xs.length - (i + 1))
          case measure => omega
          case rel =>
            refine ⟨i + 1, by omega, Nat.le_refl _, by go_num, ⟨fun j hj hj2 hji => ?_⟩, ⟨pw_below_drewN HW.out _⟩⟩
            rcases Nat.lt_or_ge j i with h | h
            · exact HN.out j hj hj2 h
            · obtain rfl : j = i := by omega
              exact HE.out
        · have hb1 : (xs[i] == ys[i]) = false := by simpa using he
          have hb2 : (xs[i] != ys[i]) = true := by simpa using he
          have HE := Lib.hid he
          clear he
          go_wp2_with fail
          go_quiet (fail)
          go_wp2_with fail
          go_ret
          refine ⟨ret_b (decide_eq_false (fun h => HE.out ?_)).symm, pw_below_drewN HW.out _⟩
          subst h
          rfl
      · obtain rfl : i = xs.length := by omega
        go_wp2_with fail
        go_ret
        refine ⟨ret_b (decide_eq_true (List.ext_getElem HL.out (fun j hj hj2 => HN.out j hj hj2 hj))).symm, HW.out⟩
  · have hl1 : ((xs.length : Int) == (ys.length : Int)) = false := by simp; omega
    have hl2 : ((xs.length : Int) != (ys.length : Int)) = true := by simp; omega
    have hl3 : (xs.length == ys.length) = false := by simp [hl]
    have hl4 : (xs.length != ys.length) = true := by simp [hl]
    have HL := Lib.hid hl
    clear hl
    go_enter Try.func89, Try.ntmps89
    go_wp2_with fail
    go_ret
    exact ⟨ret_b (decide_eq_false (fun h => HL.out (by rw [h]))).symm, Below.refl _ _⟩
def SpecSame (x : Fm) : Prop := ∀ (y : Fm) (A3 : Option Addr) (c3 : Nat) (A4 : Option Addr) (c4 : Nat) (B3 : Option Addr) (d3 : Nat) (B4 : Option Addr) (d4 : Nat) (w : World), FmIn w x A3 c3 A4 c4 → FmIn w y B3 d3 B4 d4 →
    Calls Try.prog 63 #[.agg #[.int .i64 x.f0, .string x.f1, .int .i64 x.f2, .slice A3 x.f3.length c3, .slice A4 x.f4.length c4], .agg #[.int .i64 y.f0, .string y.f1, .int .i64 y.f2, .slice B3 y.f3.length d3, .slice B4 y.f4.length d4]] w (Ret w (.bool (eqB x y)))
set_option maxHeartbeats 4000000 in
set_option maxRecDepth 100000 in
theorem specSame_any (x : Fm) : SpecSame x := by
  induction x using Fm.ind with
  | h x ih =>
    intro y A3 c3 A4 c4 B3 d3 B4 d4 w hx hy
    have HX := Lib.hid (fun (h1 : x.f0 = y.f0) (h2 : x.f1 = y.f1) (h3 : x.f2 = y.f2) (h4 : x.f3 = y.f3) (h5 : x.f4 = y.f4) => Fm.ext' h1 h2 h3 h4 h5)
    have hb1 := below_new w (.cells #[.int .i64 x.f0, .string x.f1, .int .i64 x.f2, .slice A3 x.f3.length c3, .slice A4 x.f4.length c4] 34)
    have hb2 := below_step hb1 (below_new _ (.cells #[.int .i64 y.f0, .string y.f1, .int .i64 y.f2, .slice B3 y.f3.length d3, .slice B4 y.f4.length d4] 34))
    have HB := Lib.hid hb2
    by_cases e1 : x.f0 = y.f0
    · have t1 : (x.f0 == y.f0) = true := by simpa using e1
      have t1' : (x.f0 != y.f0) = false := by simpa using e1
      have E1 := Lib.hid e1
      clear e1
      by_cases e2 : x.f1 = y.f1
      · have t2 : (x.f1.toList == y.f1.toList) = true := by rw [e2]; simp
        have t2' : (x.f1.toList != y.f1.toList) = false := by rw [e2]; simp
        have E2 := Lib.hid e2
        clear e2
        by_cases e3 : x.f2 = y.f2
        · have t3 : (x.f2 == y.f2) = true := by simpa using e3
          have t3' : (x.f2 != y.f2) = false := by simpa using e3
          have E3 := Lib.hid e3
          clear e3
          have HC := Lib.hid (l1Ints_any x.f3 y.f3 A3 B3 c3 d3 _ (Kd.C_below hx.g3 hb2) hx.l3 (Kd.C_below hy.g3 hb2) hy.l3)
          have HK := Lib.hid (fun (k : Fm) (h : k ∈ x.f4) => ih k h)
          have HXY := Lib.hid (And.intro hx hy)
          have hmax := hx.g4.2.1
          clear ih hx hy hb1 hb2
          go_enter Try.func63, Try.ntmps63
          go_wp2_with fail
          refine HC.out.mono ?_
          rintro e w1 ⟨rfl, k1⟩
          have hz := blk_below (blk_below (blk_new w (.cells #[.int .i64 x.f0, .string x.f1, .int .i64 x.f2, .slice A3 x.f3.length c3, .slice A4 x.f4.length c4] 34)) (below_new _ _)) k1
          have hz2 := blk_below (blk_new (w.alloc (.cells #[.int .i64 x.f0, .string x.f1, .int .i64 x.f2, .slice A3 x.f3.length c3, .slice A4 x.f4.length c4] 34)) (.cells #[.int .i64 y.f0, .string y.f1, .int .i64 y.f2, .slice B3 y.f3.length d3, .slice B4 y.f4.length d4] 34)) k1
          rw [show (w.alloc (.cells #[.int .i64 x.f0, .string x.f1, .int .i64 x.f2, .slice A3 x.f3.length c3, .slice A4 x.f4.length c4] 34)).heap.size = w.heap.size + 1 from by simp] at hz2
          obtain ⟨_, _, _, _, q4⟩ := fm_cells hz
          obtain ⟨_, _, _, _, r4⟩ := fm_cells hz2
          have K1 := Lib.hid (below_step HB.out k1)
          clear hz hz2 k1
          by_cases e4 : x.f3 = y.f3
          · have E4 := Lib.hid e4
            rw [decide_eq_true e4]
            clear e4
            by_cases hl : x.f4.length = y.f4.length
            · have hl1 : ((x.f4.length : Int) == (y.f4.length : Int)) = true := by simp [hl]
              have hl2 : ((x.f4.length : Int) != (y.f4.length : Int)) = false := by simp [hl]
              have HL := Lib.hid hl
              have C1 := Lib.hid (Kd.C_below HXY.out.1.g4 K1.out)
              have C2 := Lib.hid (Kd.C_below HXY.out.2.g4 K1.out)
              clear hl
              go_wp2_with fail
              go_loopg [5] x.f4.length (fun kq v5 w' => ∃ i : Nat, i ≤ x.f4.length ∧ x.f4.length - i ≤ kq ∧ v5 = .int .i64 i ∧ Aside0 (∀ j (h : j < x.f4.length) (h2 : j < y.f4.length), j < i → x.f4[j] = y.f4[j]) ∧ Aside0 (Below w1.heap.size w1 w'))
              case atStart => exact ⟨0, Nat.zero_le _, by omega, rfl, ⟨fun j _ _ h => absurd h (by omega)⟩, ⟨Below.refl _ _⟩⟩
              case round =>
                obtain ⟨i, hi, hg, rfl, HN, HW⟩ := hrel
                have q6 := ck0 HW.out q4
                by_cases hlt : i < x.f4.length
                · have hlt2 : i < y.f4.length := by have := HL.out; omega
                  obtain ⟨ad, G3, m3, G4, m4, e, g0, g1, g2, g3, g4, hk⟩ := kid_at (Kd.C_below C1.out HW.out) i hlt
                  subst e
                  obtain ⟨ad2, E3, f3, E4, f4, e2, h0, h1, h2, h3, h4, hk2⟩ := kid_at (Kd.C_below C2.out HW.out) i hlt2
                  subst e2
                  have HC := Lib.hid (fun W (hb : Below wr.heap.size wr W) => HK.out x.f4[i] (List.getElem_mem hlt) y.f4[i] G3 m3 G4 m4 E3 f3 E4 f4 W (hk.below hb) (hk2.below hb))
                  clear hk hk2
                  have q5 := ck0 HW.out q4
                  have r5 := ck0 HW.out r4
                  have p1 : (0 : Int) ≤ (i : Int) := by omega
                  have p2 : (i : Int) < (x.f4.length : Int) := by omega
                  have p3 : (i : Int) < (y.f4.length : Int) := by omega
                  go_wp2_with fail
                  go_region_held3 (fun w' => w'.cell? ⟨w.heap.size, 4, none⟩ = some (.slice (some ad) x.f4.length c4) ∧ w'.cell? ⟨w.heap.size + 1, 4, none⟩ = some (.slice (some ad2) y.f4.length d4) ∧ w'.cell? (ad.add (i * 5)) = some (.int .i64 x.f4[i].f0) ∧ w'.cell? ⟨(ad.add (i * 5)).block, (ad.add (i * 5)).off + 1, none⟩ = some (.string x.f4[i].f1) ∧ w'.cell? ⟨(ad.add (i * 5)).block, (ad.add (i * 5)).off + 2, none⟩ = some (.int .i64 x.f4[i].f2) ∧ w'.cell? ⟨(ad.add (i * 5)).block, (ad.add (i * 5)).off + 3, none⟩ = some (.slice G3 x.f4[i].f3.length m3) ∧ w'.cell? ⟨(ad.add (i * 5)).block, (ad.add (i * 5)).off + 4, none⟩ = some (.slice G4 x.f4[i].f4.length m4) ∧ w'.cell? (ad2.add (i * 5)) = some (.int .i64 y.f4[i].f0) ∧ w'.cell? ⟨(ad2.add (i * 5)).block, (ad2.add (i * 5)).off + 1, none⟩ = some (.string y.f4[i].f1) ∧ w'.cell? ⟨(ad2.add (i * 5)).block, (ad2.add (i * 5)).off + 2, none⟩ = some (.int .i64 y.f4[i].f2) ∧ w'.cell? ⟨(ad2.add (i * 5)).block, (ad2.add (i * 5)).off + 3, none⟩ = some (.slice E3 y.f4[i].f3.length f3) ∧ w'.cell? ⟨(ad2.add (i * 5)).block, (ad2.add (i * 5)).off + 4, none⟩ = some (.slice E4 y.f4[i].f4.length f4)) (first | go_keep | exact ⟨ck hb1 q5, ck hb1 r5, ck hb1 g0, ck hb1 g1, ck hb1 g2, ck hb1 g3, ck hb1 g4, ck hb1 h0, ck hb1 h1, ck hb1 h2, ck hb1 h3, ck hb1 h4⟩) ((go_at_call 63; refine (HC.out _ (Below.refl _ _).drew).mono ?_; rintro e w2 ⟨rfl, hb1⟩))
                  cases he : eqB x.f4[i] y.f4[i] with
                  | true =>
                    have HE := Lib.hid (eqB_iff.1 he)
                    clear he
                    go_wp2_with fail
                    go_roundg (x.f4.length - (i + 1))
                    case measure => omega
                    case rel =>
                      refine ⟨i + 1, by omega, Nat.le_refl _, by go_num, ⟨fun j hj hj2 hji => ?_⟩, ⟨below_step HW.out (below_step (Below.refl _ _).drew hb1)⟩⟩
                      rcases Nat.lt_or_ge j i with h | h
                      · exact HN.out j hj hj2 h
                      · obtain rfl : j = i := by omega
                        exact HE.out
                  | false =>
                    have HE := Lib.hid he
                    clear he
                    go_wp2_with fail
                    go_ret
                    refine ⟨ret_b (eqB_no (fun h => ?_)), below_step K1.out (below_step HW.out (below_step (Below.refl _ _).drew hb1))⟩
                    have := HE.out
                    subst h
                    rw [eqB_self] at this
                    cases this
                · obtain rfl : i = x.f4.length := by omega
                  have q5 := ck0 HW.out q4
                  go_wp2_with fail
                  go_ret
                  exact ⟨ret_b (eqB_yes (HX.out E1.out E2.out E3.out E4.out (List.ext_getElem HL.out (fun j hj hj2 => HN.out j hj hj2 hj)))), below_step K1.out HW.out⟩
            · have hl1 : ((x.f4.length : Int) == (y.f4.length : Int)) = false := by rw [beq_eq_false_iff_ne]; omega
              have hl2 : ((x.f4.length : Int) != (y.f4.length : Int)) = true := by simp; omega
              have HL := Lib.hid hl
              clear hl
              go_wp2_with fail
              go_ret
              exact ⟨ret_b (eqB_no (fun h => HL.out (by rw [h]))), K1.out⟩
          · have E4 := Lib.hid e4
            rw [decide_eq_false e4]
            clear e4
            go_wp2_with fail
            go_ret
            exact ⟨ret_b (eqB_no (fun h => E4.out (by rw [h]))), K1.out⟩
        · have t3 : (x.f2 == y.f2) = false := by simpa using e3
          have t3' : (x.f2 != y.f2) = true := by simpa using e3
          have E3 := Lib.hid e3
          clear e3 ih hx hy hb1 hb2
          go_enter Try.func63, Try.ntmps63
          go_wp2_with fail
          go_ret
          exact ⟨ret_b (eqB_no (fun h => E3.out (by rw [h]))), HB.out⟩
      · have t2 : (x.f1.toList == y.f1.toList) = false := by rw [beq_eq_false_iff_ne]; exact fun h => e2 (toList_inj h)
        have t2' : (x.f1.toList != y.f1.toList) = true := by rw [bne_iff_ne]; exact fun h => e2 (toList_inj h)
        have E2 := Lib.hid e2
        clear e2 ih hx hy hb1 hb2
        go_enter Try.func63, Try.ntmps63
        go_wp2_with fail
        go_ret
        exact ⟨ret_b (eqB_no (fun h => E2.out (by rw [h]))), HB.out⟩
    · have t1 : (x.f0 == y.f0) = false := by simpa using e1
      have t1' : (x.f0 != y.f0) = true := by simpa using e1
      have E1 := Lib.hid e1
      clear e1 ih hx hy hb1 hb2
      go_enter Try.func63, Try.ntmps63
      go_wp2_with fail
      go_ret
      exact ⟨ret_b (eqB_no (fun h => E1.out (by rw [h]))), HB.out⟩
def ImplSame (x : Fm) : Prop := ∀ (y : Fm) (A3 : Option Addr) (c3 : Nat) (A4 : Option Addr) (c4 : Nat) (B3 : Option Addr) (d3 : Nat) (B4 : Option Addr) (d4 : Nat) (w : World), FmIn w x A3 c3 A4 c4 → FmIn w y B3 d3 B4 d4 →
    Calls Try.prog 94 #[.agg #[.int .i64 x.f0, .string x.f1, .int .i64 x.f2, .slice A3 x.f3.length c3, .slice A4 x.f4.length c4], .agg #[.int .i64 y.f0, .string y.f1, .int .i64 y.f2, .slice B3 y.f3.length d3, .slice B4 y.f4.length d4]] w (Ret w (.bool (eqB x y)))
set_option maxHeartbeats 4000000 in
set_option maxRecDepth 100000 in
theorem equalFunc_of (ks ls : List Fm) (hks : ∀ k, k ∈ ks → ImplSame k) (A B : Option Addr) (c d : Nat) (w : World) (hr : kF.C w A ks.length ks) (hc : ks.length ≤ c) (hr2 : kF.C w B ls.length ls) (hc2 : ls.length ≤ d) :
    Calls Try.prog 118 #[.slice A ks.length c, .slice B ls.length d, .func (.func 94) #[] #[]] w (Ret w (.bool (eqB ks ls))) := by
  have eg : ∀ args w, (callFunc 94 args).run Try.prog w = .ok (.enter 94 args) w := enters_of Try.func94 (by kernel_rfl) rfl
  have hmax := hr.2.1
  by_cases hl : ks.length = ls.length
  · have hl1 : ((ks.length : Int) == (ls.length : Int)) = true := by simp [hl]
    have hl2 : ((ks.length : Int) != (ls.length : Int)) = false := by simp [hl]
    have HL := Lib.hid hl
    have HK := Lib.hid hks
    clear hl hks
    go_enter Try.func118, Try.ntmps118
    go_wp2_with fail
    go_loopg [7, 8, 9, 17] ks.length (fun kq v7 v8 v9 v17 w' => ∃ i : Nat, i ≤ ks.length ∧ ks.length - i ≤ kq ∧ v17 = .int .i64 i ∧ Aside0 (∀ j (h : j < ks.length) (h2 : j < ls.length), j < i → ks[j] = ls[j]) ∧ Aside0 (Below w.heap.size w w'))
    case atStart => exact ⟨0, Nat.zero_le _, by omega, rfl, ⟨fun j _ _ h => absurd h (by omega)⟩, ⟨Below.refl _ _⟩⟩
    case round =>
      obtain ⟨i, hi, hg, rfl, HN, HW⟩ := hrel
      by_cases hlt : i < ks.length
      · have hlt2 : i < ls.length := by have := HL.out; omega
        obtain ⟨ad, G3, m3, G4, m4, e, g0, g1, g2, g3, g4, hk⟩ := kid_at (Kd.C_below hr HW.out) i hlt
        subst e
        obtain ⟨ad2, E3, f3, E4, f4, e2, h0, h1, h2, h3, h4, hk2⟩ := kid_at (Kd.C_below hr2 HW.out) i hlt2
        subst e2
        have HC := Lib.hid (fun W (hb : Below wr.heap.size wr W) => HK.out ks[i] (List.getElem_mem hlt) ls[i] G3 m3 G4 m4 E3 f3 E4 f4 W (hk.below hb) (hk2.below hb))
        clear hk hk2
        have hn := below_new wr (.cells #[.int .i64 ks[i].f0, .string ks[i].f1, .int .i64 ks[i].f2, .slice G3 ks[i].f3.length m3, .slice G4 ks[i].f4.length m4] 34)
        have k0 := ck0 hn h0
        have k1 := ck0 hn h1
        have k2 := ck0 hn h2
        have k3 := ck0 hn h3
        have k4 := ck0 hn h4
        clear hn
        go_wp2_with fail
        refine (HC.out _ (below_step (below_new _ _) (below_new _ _))).mono ?_
        rintro e w1 ⟨rfl, hb1⟩
        obtain ⟨_, _, b1⟩ := two_new hb1
        have B1 := Lib.hid b1
        clear hb1 b1
        cases he : eqB ks[i] ls[i] with
        | true =>
          have HE := Lib.hid (eqB_iff.1 he)
          clear he
          go_wp2_with fail
          go_roundg (ks.length - (i + 1))
          case measure => omega
          case rel =>
            refine ⟨i + 1, by omega, Nat.le_refl _, by go_num, ⟨fun j hj hj2 hji => ?_⟩, ⟨below_step HW.out B1.out⟩⟩
            rcases Nat.lt_or_ge j i with h | h
            · exact HN.out j hj hj2 h
            · obtain rfl : j = i := by omega
              exact HE.out
        | false =>
          have HE := Lib.hid he
          clear he
          go_wp2_with fail
          go_ret
          refine ⟨ret_b (eqB_no (fun h => ?_)), below_step HW.out B1.out⟩
          have := HE.out
          subst h
          rw [eqB_self] at this
          cases this
      · obtain rfl : i = ks.length := by omega
        go_wp2_with fail
        go_ret
        exact ⟨ret_b (eqB_yes (List.ext_getElem HL.out (fun j hj hj2 => HN.out j hj hj2 hj))), HW.out⟩
  · have hl2 : ((ks.length : Int) != (ls.length : Int)) = true := by simp; omega
    have hl1 : ((ks.length : Int) == (ls.length : Int)) = false := by rw [beq_eq_false_iff_ne]; omega
    have HL := Lib.hid hl
    clear hl
    go_enter Try.func118, Try.ntmps118
    go_wp2_with fail
    go_ret
    exact ⟨ret_b (eqB_no (fun h => HL.out (by rw [h]))), Below.refl _ _⟩
set_option maxHeartbeats 4000000 in
theorem implSame_any (x : Fm) : ImplSame x := by
  induction x using Fm.ind with
  | h x ih =>
    intro y A3 c3 A4 c4 B3 d3 B4 d4 w hx hy
    have HX := Lib.hid (fun (h1 : x.f0 = y.f0) (h2 : x.f1 = y.f1) (h3 : x.f2 = y.f2) (h4 : x.f3 = y.f3) (h5 : x.f4 = y.f4) => Fm.ext' h1 h2 h3 h4 h5)
    have hb1 := below_new w (.cells #[.int .i64 x.f0, .string x.f1, .int .i64 x.f2, .slice A3 x.f3.length c3, .slice A4 x.f4.length c4] 34)
    have hb2 := below_step hb1 (below_new _ (.cells #[.int .i64 y.f0, .string y.f1, .int .i64 y.f2, .slice B3 y.f3.length d3, .slice B4 y.f4.length d4] 34))
    have HB := Lib.hid hb2
    by_cases e1 : x.f0 = y.f0
    · have t1 : (x.f0 == y.f0) = true := by simpa using e1
      have t1' : (x.f0 != y.f0) = false := by simpa using e1
      have E1 := Lib.hid e1
      clear e1
      by_cases e2 : x.f1 = y.f1
      · have t2 : (x.f1.toList == y.f1.toList) = true := by rw [e2]; simp
        have t2' : (x.f1.toList != y.f1.toList) = false := by rw [e2]; simp
        have E2 := Lib.hid e2
        clear e2
        by_cases e3 : x.f2 = y.f2
        · have t3 : (x.f2 == y.f2) = true := by simpa using e3
          have t3' : (x.f2 != y.f2) = false := by simpa using e3
          have E3 := Lib.hid e3
          clear e3
          have HC := Lib.hid (equalI_any x.f3 y.f3 A3 B3 c3 d3 _ (Kd.C_below hx.g3 hb2) hx.l3 (Kd.C_below hy.g3 hb2) hy.l3)
          have HK := Lib.hid (fun W hb => equalFunc_of x.f4 y.f4 ih A4 B4 c4 d4 W (Kd.C_below hx.g4 hb) hx.l4 (Kd.C_below hy.g4 hb) hy.l4)
          clear ih hx hy hb1 hb2
          go_enter Try.func94, Try.ntmps94
          go_wp2_with fail
          refine HC.out.mono ?_
          rintro e w1 ⟨rfl, k1⟩
          have hz := blk_below (blk_below (blk_new w (.cells #[.int .i64 x.f0, .string x.f1, .int .i64 x.f2, .slice A3 x.f3.length c3, .slice A4 x.f4.length c4] 34)) (below_new _ _)) k1
          have hz2 := blk_below (blk_new (w.alloc (.cells #[.int .i64 x.f0, .string x.f1, .int .i64 x.f2, .slice A3 x.f3.length c3, .slice A4 x.f4.length c4] 34)) (.cells #[.int .i64 y.f0, .string y.f1, .int .i64 y.f2, .slice B3 y.f3.length d3, .slice B4 y.f4.length d4] 34)) k1
          rw [show (w.alloc (.cells #[.int .i64 x.f0, .string x.f1, .int .i64 x.f2, .slice A3 x.f3.length c3, .slice A4 x.f4.length c4] 34)).heap.size = w.heap.size + 1 from by simp] at hz2
          obtain ⟨_, _, _, _, q4⟩ := fm_cells hz
          obtain ⟨_, _, _, _, r4⟩ := fm_cells hz2
          have K1 := Lib.hid (below_step HB.out k1)
          clear hz hz2 k1
          by_cases e4 : x.f3 = y.f3
          · have E4 := Lib.hid e4
            rw [decide_eq_true e4]
            clear e4
            go_wp2_with fail
            refine (HK.out _ K1.out).mono ?_
            rintro e w2 ⟨rfl, k2⟩
            cases e5 : eqB x.f4 y.f4 with
            | true =>
              have E5 := Lib.hid (eqB_iff.1 e5)
              clear e5
              go_wp2_with fail
              go_ret
              exact ⟨ret_b (eqB_yes (HX.out E1.out E2.out E3.out E4.out E5.out)), below_step K1.out k2⟩
            | false =>
              have E5 := Lib.hid e5
              clear e5
              go_wp2_with fail
              go_ret
              refine ⟨ret_b (eqB_no (fun h => ?_)), below_step K1.out k2⟩
              have := E5.out
              rw [h, eqB_self] at this
              cases this
          · have E4 := Lib.hid e4
            rw [decide_eq_false e4]
            clear e4
            go_wp2_with fail
            go_ret
            exact ⟨ret_b (eqB_no (fun h => E4.out (by rw [h]))), K1.out⟩
        · have t3 : (x.f2 == y.f2) = false := by simpa using e3
          have t3' : (x.f2 != y.f2) = true := by simpa using e3
          have E3 := Lib.hid e3
          clear e3 ih hx hy hb1 hb2
          go_enter Try.func94, Try.ntmps94
          go_wp2_with fail
          go_ret
          exact ⟨ret_b (eqB_no (fun h => E3.out (by rw [h]))), HB.out⟩
      · have t2 : (x.f1.toList == y.f1.toList) = false := by rw [beq_eq_false_iff_ne]; exact fun h => e2 (toList_inj h)
        have t2' : (x.f1.toList != y.f1.toList) = true := by rw [bne_iff_ne]; exact fun h => e2 (toList_inj h)
        have E2 := Lib.hid e2
        clear e2 ih hx hy hb1 hb2
        go_enter Try.func94, Try.ntmps94
        go_wp2_with fail
        go_ret
        exact ⟨ret_b (eqB_no (fun h => E2.out (by rw [h]))), HB.out⟩
    · have t1 : (x.f0 == y.f0) = false := by simpa using e1
      have t1' : (x.f0 != y.f0) = true := by simpa using e1
      have E1 := Lib.hid e1
      clear e1 ih hx hy hb1 hb2
      go_enter Try.func94, Try.ntmps94
      go_wp2_with fail
      go_ret
      exact ⟨ret_b (eqB_no (fun h => E1.out (by rw [h]))), HB.out⟩
end Go.Proofs.Ytlklclebjeeaaaa
end
section
namespace Go.Proofs.Ytlklclebjeeaaaa
open Go.RowKit Go.Proofs.YtlklclebjeeaaaaW.PrintWords Go.Proofs.YtlklclebjeeaaaaW.PrintLast Go.Proofs.YtlklclebjeeaaaaW.PrintMore
set_option linter.unusedVariables false
set_option linter.unusedSimpArgs false
theorem Ht.ext' {x y : Ht} (h1 : x.f0 = y.f0) (h2 : x.f1 = y.f1) (h3 : x.f2 = y.f2) (h4 : x.f3 = y.f3) : x = y := by
  cases x; cases y; simp only at h1 h2 h3 h4; subst h1; subst h2; subst h3; subst h4; rfl
def HitSame (x : Ht) : Prop := ∀ (y : Ht) (A3 : Option Addr) (Ac3 : Nat) (A4 : Option Addr) (Ac4 : Nat) (A9 : Option Addr) (Ac9 : Nat) (A10 : Option Addr) (Ac10 : Nat) (A11 : Option Addr) (Ac11 : Nat) (B3 : Option Addr) (Bc3 : Nat) (B4 : Option Addr) (Bc4 : Nat) (B9 : Option Addr) (Bc9 : Nat) (B10 : Option Addr) (Bc10 : Nat) (B11 : Option Addr) (Bc11 : Nat) (w : World), HtIn w x A3 Ac3 A4 Ac4 A9 Ac9 A10 Ac10 A11 Ac11 → HtIn w y B3 Bc3 B4 Bc4 B9 Bc9 B10 Bc10 B11 Bc11 →
    Calls Try.prog 66 #[.agg #[.int .i64 x.f0.f0, .string x.f0.f1, .int .i64 x.f0.f2, .slice A3 x.f0.f3.length Ac3, .slice A4 x.f0.f4.length Ac4, .int .i64 x.f1, .int .i64 x.f2.f0, .string x.f2.f1, .int .i64 x.f2.f2, .slice A9 x.f2.f3.length Ac9, .slice A10 x.f2.f4.length Ac10, .slice A11 x.f3.length Ac11], .agg #[.int .i64 y.f0.f0, .string y.f0.f1, .int .i64 y.f0.f2, .slice B3 y.f0.f3.length Bc3, .slice B4 y.f0.f4.length Bc4, .int .i64 y.f1, .int .i64 y.f2.f0, .string y.f2.f1, .int .i64 y.f2.f2, .slice B9 y.f2.f3.length Bc9, .slice B10 y.f2.f4.length Bc10, .slice B11 y.f3.length Bc11]] w (Ret w (.bool (eqB x y)))
set_option maxHeartbeats 4000000 in
set_option maxRecDepth 100000 in
theorem equalFuncH_of (ks ls : List Ht) (hks : ∀ k, k ∈ ks → HitSame k) (A B : Option Addr) (c d : Nat) (w : World) (hr : kH.C w A ks.length ks) (hc : ks.length ≤ c) (hr2 : kH.C w B ls.length ls) (hc2 : ls.length ≤ d) :
    Calls Try.prog 65 #[.slice A ks.length c, .slice B ls.length d, .func (.func 66) #[] #[]] w (Ret w (.bool (eqB ks ls))) := by
  have eg : ∀ args w, (callFunc 66 args).run Try.prog w = .ok (.enter 66 args) w := enters_of Try.func66 (by kernel_rfl) rfl
  have hmax := hr.2.1
  by_cases hl : ks.length = ls.length
  · have hl1 : ((ks.length : Int) == (ls.length : Int)) = true := by simp [hl]
    have hl2 : ((ks.length : Int) != (ls.length : Int)) = false := by simp [hl]
    have HL := Lib.hid hl
    have HK := Lib.hid hks
    clear hl hks
    go_enter Try.func65, Try.ntmps65
    go_wp2_with fail
    go_loopg [7, 8, 9, 17] ks.length (fun kq v7 v8 v9 v17 w' => ∃ i : Nat, i ≤ ks.length ∧ ks.length - i ≤ kq ∧ v17 = .int .i64 i ∧ Aside0 (∀ j (h : j < ks.length) (h2 : j < ls.length), j < i → ks[j] = ls[j]) ∧ Aside0 (Below w.heap.size w w'))
    case atStart => exact ⟨0, Nat.zero_le _, by omega, rfl, ⟨fun j _ _ h => absurd h (by omega)⟩, ⟨Below.refl _ _⟩⟩
    case round =>
      obtain ⟨i, hi, hg, rfl, HN, HW⟩ := hrel
      by_cases hlt : i < ks.length
      · have hlt2 : i < ls.length := by have := HL.out; omega
        obtain ⟨ad, X3, Xc3, X4, Xc4, X9, Xc9, X10, Xc10, X11, Xc11, e, hcl, hk⟩ := ht_at (Kd.C_below hr HW.out) i hlt
        subst e
        obtain ⟨g0, g1, g2, g3, g4, g5, g6, g7, g8, g9, g10, g11⟩ := ht_cells_at hcl
        clear hcl
        obtain ⟨ad2, Y3, Yc3, Y4, Yc4, Y9, Yc9, Y10, Yc10, Y11, Yc11, e2, hcl, hk2⟩ := ht_at (Kd.C_below hr2 HW.out) i hlt2
        subst e2
        obtain ⟨h0, h1, h2, h3, h4, h5, h6, h7, h8, h9, h10, h11⟩ := ht_cells_at hcl
        clear hcl
        have HC := Lib.hid (fun W (hb : Below wr.heap.size wr W) => HK.out ks[i] (List.getElem_mem hlt) ls[i] X3 Xc3 X4 Xc4 X9 Xc9 X10 Xc10 X11 Xc11 Y3 Yc3 Y4 Yc4 Y9 Yc9 Y10 Yc10 Y11 Yc11 W (hk.below hb) (hk2.below hb))
        clear hk hk2
        have hn := below_new wr (.cells #[.int .i64 ks[i].f0.f0, .string ks[i].f0.f1, .int .i64 ks[i].f0.f2, .slice X3 ks[i].f0.f3.length Xc3, .slice X4 ks[i].f0.f4.length Xc4, .int .i64 ks[i].f1, .int .i64 ks[i].f2.f0, .string ks[i].f2.f1, .int .i64 ks[i].f2.f2, .slice X9 ks[i].f2.f3.length Xc9, .slice X10 ks[i].f2.f4.length Xc10, .slice X11 ks[i].f3.length Xc11] 80)
        have k0 := ck0 hn h0
        have k1 := ck0 hn h1
        have k2 := ck0 hn h2
        have k3 := ck0 hn h3
        have k4 := ck0 hn h4
        have k5 := ck0 hn h5
        have k6 := ck0 hn h6
        have k7 := ck0 hn h7
        have k8 := ck0 hn h8
        have k9 := ck0 hn h9
        have k10 := ck0 hn h10
        have k11 := ck0 hn h11
        clear hn
        go_wp2_with fail
        refine (HC.out _ (below_step (below_new _ _) (below_new _ _))).mono ?_
        rintro e w1 ⟨rfl, hb1⟩
        obtain ⟨_, _, b1⟩ := two_new hb1
        have B1 := Lib.hid b1
        clear hb1 b1 g0 g1 g2 g3 g4 g5 g6 g7 g8 g9 g10 g11 h0 h1 h2 h3 h4 h5 h6 h7 h8 h9 h10 h11 k0 k1 k2 k3 k4 k5 k6 k7 k8 k9 k10 k11
        cases he : eqB ks[i] ls[i] with
        | true =>
          have HE := Lib.hid (eqB_iff.1 he)
          clear he
          go_wp2_with fail
          go_roundg (ks.length - (i + 1))
          case measure => omega
          case rel =>
            refine ⟨i + 1, by omega, Nat.le_refl _, by go_num, ⟨fun j hj hj2 hji => ?_⟩, ⟨below_step HW.out B1.out⟩⟩
            rcases Nat.lt_or_ge j i with h | h
            · exact HN.out j hj hj2 h
            · obtain rfl : j = i := by omega
              exact HE.out
        | false =>
          have HE := Lib.hid he
          clear he
          go_wp2_with fail
          go_ret
          refine ⟨ret_b (eqB_no (fun h => ?_)), below_step HW.out B1.out⟩
          have := HE.out
          subst h
          rw [eqB_self] at this
          cases this
      · obtain rfl : i = ks.length := by omega
        go_wp2_with fail
        go_ret
        exact ⟨ret_b (eqB_yes (List.ext_getElem HL.out (fun j hj hj2 => HN.out j hj hj2 hj))), HW.out⟩
  · have hl2 : ((ks.length : Int) != (ls.length : Int)) = true := by simp; omega
    have hl1 : ((ks.length : Int) == (ls.length : Int)) = false := by rw [beq_eq_false_iff_ne]; omega
    have HL := Lib.hid hl
    clear hl
    go_enter Try.func65, Try.ntmps65
    go_wp2_with fail
    go_ret
    exact ⟨ret_b (eqB_no (fun h => HL.out (by rw [h]))), Below.refl _ _⟩
set_option maxHeartbeats 8000000 in
set_option maxRecDepth 100000 in
theorem hitSame_any (x : Ht) : HitSame x := by
  induction x using Ht.ind with
  | h x ih =>
    intro y A3 Ac3 A4 Ac4 A9 Ac9 A10 Ac10 A11 Ac11 B3 Bc3 B4 Bc4 B9 Bc9 B10 Bc10 B11 Bc11 w hx hy
    obtain ⟨k1, k2, hb0⟩ := two_new (Below.refl ((w.alloc (.cells #[.int .i64 x.f0.f0, .string x.f0.f1, .int .i64 x.f0.f2, .slice A3 x.f0.f3.length Ac3, .slice A4 x.f0.f4.length Ac4, .int .i64 x.f1, .int .i64 x.f2.f0, .string x.f2.f1, .int .i64 x.f2.f2, .slice A9 x.f2.f3.length Ac9, .slice A10 x.f2.f4.length Ac10, .slice A11 x.f3.length Ac11] 80)).alloc (.cells #[.int .i64 y.f0.f0, .string y.f0.f1, .int .i64 y.f0.f2, .slice B3 y.f0.f3.length Bc3, .slice B4 y.f0.f4.length Bc4, .int .i64 y.f1, .int .i64 y.f2.f0, .string y.f2.f1, .int .i64 y.f2.f2, .slice B9 y.f2.f3.length Bc9, .slice B10 y.f2.f4.length Bc10, .slice B11 y.f3.length Bc11] 80)).heap.size ((w.alloc (.cells #[.int .i64 x.f0.f0, .string x.f0.f1, .int .i64 x.f0.f2, .slice A3 x.f0.f3.length Ac3, .slice A4 x.f0.f4.length Ac4, .int .i64 x.f1, .int .i64 x.f2.f0, .string x.f2.f1, .int .i64 x.f2.f2, .slice A9 x.f2.f3.length Ac9, .slice A10 x.f2.f4.length Ac10, .slice A11 x.f3.length Ac11] 80)).alloc (.cells #[.int .i64 y.f0.f0, .string y.f0.f1, .int .i64 y.f0.f2, .slice B3 y.f0.f3.length Bc3, .slice B4 y.f0.f4.length Bc4, .int .i64 y.f1, .int .i64 y.f2.f0, .string y.f2.f1, .int .i64 y.f2.f2, .slice B9 y.f2.f3.length Bc9, .slice B10 y.f2.f4.length Bc10, .slice B11 y.f3.length Bc11] 80)))
    have HB := Lib.hid hb0
    have HA := Lib.hid k1
    have HBx := Lib.hid k2
    clear k1 k2 hb0
    have HN := Lib.hid (fun W hb => implSame_any x.f0 y.f0 A3 Ac3 A4 Ac4 B3 Bc3 B4 Bc4 W (hx.n.below hb) (hy.n.below hb))
    have HO := Lib.hid (fun W hb => implSame_any x.f2 y.f2 A9 Ac9 A10 Ac10 B9 Bc9 B10 Bc10 W (hx.o.below hb) (hy.o.below hb))
    have HS := Lib.hid (fun W hb => equalFuncH_of x.f3 y.f3 ih A11 B11 Ac11 Bc11 W (Kd.C_below hx.gm hb) hx.lm (Kd.C_below hy.gm hb) hy.lm)
    have HX := Lib.hid (fun (h1 : x.f0 = y.f0) (h2 : x.f1 = y.f1) (h3 : x.f2 = y.f2) (h4 : x.f3 = y.f3) => Ht.ext' h1 h2 h3 h4)
    clear hx hy ih
    obtain ⟨p0, p1, p2, p3, p4, p5, p6, p7, p8, p9, p10, p11⟩ := ht_cells HA.out
    obtain ⟨q0, q1, q2, q3, q4, q5, q6, q7, q8, q9, q10, q11⟩ := ht_cells HBx.out
    go_enter Try.func66, Try.ntmps66
    go_wp2_with fail
    refine (HN.out _ HB.out).mono ?_
    rintro e w1 ⟨rfl, b⟩
    replace HA := Lib.hid (blk_below HA.out b)
    replace HBx := Lib.hid (blk_below HBx.out b)
    replace HB := Lib.hid (below_step HB.out b)
    clear b p0 p1 p2 p3 p4 p5 p6 p7 p8 p9 p10 p11 q0 q1 q2 q3 q4 q5 q6 q7 q8 q9 q10 q11
    cases he : eqB x.f0 y.f0 with
    | false =>
      have E := Lib.hid he
      clear he
      go_wp2_with fail
      go_ret
      refine ⟨ret_b (eqB_no (fun h => ?_)), HB.out⟩
      have := E.out
      rw [h, eqB_self] at this
      cases this
    | true =>
    have E1 := Lib.hid (eqB_iff.1 he)
    clear he
    obtain ⟨p0, p1, p2, p3, p4, p5, p6, p7, p8, p9, p10, p11⟩ := ht_cells HA.out
    obtain ⟨q0, q1, q2, q3, q4, q5, q6, q7, q8, q9, q10, q11⟩ := ht_cells HBx.out
    by_cases e2 : x.f1 = y.f1
    rotate_left
    · have t2 : (x.f1 == y.f1) = false := by simpa using e2
      have t2' : (x.f1 != y.f1) = true := by simpa using e2
      have E := Lib.hid e2
      clear e2
      go_wp2_with fail
      go_ret
      exact ⟨ret_b (eqB_no (fun h => E.out (by rw [h]))), HB.out⟩
    have t2 : (x.f1 == y.f1) = true := by simpa using e2
    have t2' : (x.f1 != y.f1) = false := by simpa using e2
    have E2 := Lib.hid e2
    clear e2
    go_wp2_with fail
    refine (HO.out _ HB.out).mono ?_
    rintro e w2 ⟨rfl, b⟩
    replace HA := Lib.hid (blk_below HA.out b)
    replace HBx := Lib.hid (blk_below HBx.out b)
    replace HB := Lib.hid (below_step HB.out b)
    clear b p0 p1 p2 p3 p4 p5 p6 p7 p8 p9 p10 p11 q0 q1 q2 q3 q4 q5 q6 q7 q8 q9 q10 q11
    cases he : eqB x.f2 y.f2 with
    | false =>
      have E := Lib.hid he
      clear he
      go_wp2_with fail
      go_ret
      refine ⟨ret_b (eqB_no (fun h => ?_)), HB.out⟩
      have := E.out
      rw [h, eqB_self] at this
      cases this
    | true =>
    have E3 := Lib.hid (eqB_iff.1 he)
    clear he
    obtain ⟨p0, p1, p2, p3, p4, p5, p6, p7, p8, p9, p10, p11⟩ := ht_cells HA.out
    obtain ⟨q0, q1, q2, q3, q4, q5, q6, q7, q8, q9, q10, q11⟩ := ht_cells HBx.out
    go_wp2_with fail
    refine (HS.out _ HB.out).mono ?_
    rintro e w3 ⟨rfl, b⟩
    replace HA := Lib.hid (blk_below HA.out b)
    replace HBx := Lib.hid (blk_below HBx.out b)
    replace HB := Lib.hid (below_step HB.out b)
    clear b p0 p1 p2 p3 p4 p5 p6 p7 p8 p9 p10 p11 q0 q1 q2 q3 q4 q5 q6 q7 q8 q9 q10 q11
    cases he : eqB x.f3 y.f3 with
    | false =>
      have E := Lib.hid he
      clear he
      go_wp2_with fail
      go_ret
      refine ⟨ret_b (eqB_no (fun h => ?_)), HB.out⟩
      have := E.out
      rw [h, eqB_self] at this
      cases this
    | true =>
    have E4 := Lib.hid (eqB_iff.1 he)
    clear he
    go_wp2_with fail
    go_ret
    exact ⟨ret_b (eqB_yes (HX.out E1.out E2.out E3.out E4.out)), HB.out⟩
theorem equalFuncH_any (ks ls : List Ht) (A B : Option Addr) (c d : Nat) (w : World) (hr : kH.C w A ks.length ks) (hc : ks.length ≤ c) (hr2 : kH.C w B ls.length ls) (hc2 : ls.length ≤ d) :
    Calls Try.prog 65 #[.slice A ks.length c, .slice B ls.length d, .func (.func 66) #[] #[]] w (Ret w (.bool (eqB ks ls))) := equalFuncH_of ks ls (fun k _ => hitSame_any k) A B c d w hr hc hr2 hc2
theorem implHitsSame_any (ks ls : List Ht) (A B : Option Addr) (c d : Nat) (w : World) (hr : kH.C w A ks.length ks) (hc : ks.length ≤ c) (hr2 : kH.C w B ls.length ls) (hc2 : ls.length ≤ d) :
    Calls Try.prog 31 #[.slice A ks.length c, .slice B ls.length d] w (Ret w (.bool (eqB ks ls))) := by
  have HC := Lib.hid (equalFuncH_any ks ls A B c d w hr hc hr2 hc2)
  go_enter Try.func31, Try.ntmps31
  go_wp2_with fail
  refine HC.out.mono ?_
  rintro e w1 ⟨rfl, b⟩
  go_wp2_with fail
  go_ret
  exact ⟨rfl, b⟩
end Go.Proofs.Ytlklclebjeeaaaa
end
