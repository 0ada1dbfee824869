/- Words for the laws' proofs (part 2): contracts of functions, and plain lemmas. -/
import Derived.Deep.MidRow
import Derived.Deep.RegionHeld3
import Derived.IntWalk
import Derived.Lib.Bytealg
import Derived.Lib.Strings
import Derived.Shelf.Abstract
import Derived.Test.YtlklclebjeeaaaaHb1
section
namespace Go.Proofs.Ytlklclebjeeaaaa
open Go.RowKit Go.Proofs.YtlklclebjeeaaaaW.PrintWords Go.Proofs.YtlklclebjeeaaaaW.PrintLast Go.Proofs.YtlklclebjeeaaaaW.PrintMore
set_option linter.unusedVariables false
set_option linter.unusedSimpArgs false
theorem ht_free {w : World} {g : Nat} {v0 v1 v2 v3 v4 v5 v6 v7 v8 v9 v10 v11 : Value} {t : TypeId} (h : w.heap[g]? = some (.cells #[v0, v1, v2, v3, v4, v5, v6, v7, v8, v9, v10, v11] t (0, 0))) : w.frozen? ⟨g, 0, none⟩ = false ∧ w.frozen? ⟨g, 1, none⟩ = false ∧ w.frozen? ⟨g, 2, none⟩ = false ∧ w.frozen? ⟨g, 3, none⟩ = false ∧ w.frozen? ⟨g, 4, none⟩ = false ∧ w.frozen? ⟨g, 5, none⟩ = false ∧ w.frozen? ⟨g, 6, none⟩ = false ∧ w.frozen? ⟨g, 7, none⟩ = false ∧ w.frozen? ⟨g, 8, none⟩ = false ∧ w.frozen? ⟨g, 9, none⟩ = false ∧ w.frozen? ⟨g, 10, none⟩ = false ∧ w.frozen? ⟨g, 11, none⟩ = false :=
  ⟨blk_frozen h 0, blk_frozen h 1, blk_frozen h 2, blk_frozen h 3, blk_frozen h 4, blk_frozen h 5, blk_frozen h 6, blk_frozen h 7, blk_frozen h 8, blk_frozen h 9, blk_frozen h 10, blk_frozen h 11⟩
theorem NewF.st {B : Nat} {w : World} {x : Fm} {v3 v4 : Value} (h : NewF B w x v3 v4) : ∃ A3 c3 A4 c4, v3 = .slice A3 x.f3.length c3 ∧ v4 = .slice A4 x.f4.length c4 ∧ ∀ W : World, (∀ b, B ≤ b → b < w.heap.size → W.heap[b]? = w.heap[b]?) → FmIn W x A3 c3 A4 c4 := by
  obtain ⟨fp, ht, _, hge⟩ := h
  obtain ⟨A3, c3, A4, c4, rfl, rfl, _⟩ := ht.In
  refine ⟨A3, c3, A4, c4, rfl, rfl, fun W hm => ?_⟩
  obtain ⟨A3', c3', A4', c4', e3, e4, hi⟩ := (ht.move (w1 := W) x (fun b hb => hm b (hge b hb) (ht.lt x b hb))).In
  cases e3
  cases e4
  exact hi
theorem infoSz12 : (Try.prog.info? 80).map (·.size) = some 12 := by kernel_rfl
theorem setCells12 (w : World) (g o : Nat) (b0 b1 b2 b3 b4 b5 b6 b7 b8 b9 b10 b11 : Value) : w.setCells g o [b0, b1, b2, b3, b4, b5, b6, b7, b8, b9, b10, b11] = set12 w g o b0 b1 b2 b3 b4 b5 b6 b7 b8 b9 b10 b11 := rfl
def GetHt (w : World) (x : Ht) (e : Ending) (w' : World) : Prop := ∃ A3 Ac3 A4 Ac4 A9 Ac9 A10 Ac10 A11 Ac11, e = .returned (.agg #[.int .i64 x.f0.f0, .string x.f0.f1, .int .i64 x.f0.f2, .slice A3 x.f0.f3.length Ac3, .slice A4 x.f0.f4.length Ac4, .int .i64 x.f1, .int .i64 x.f2.f0, .string x.f2.f1, .int .i64 x.f2.f2, .slice A9 x.f2.f3.length Ac9, .slice A10 x.f2.f4.length Ac10, .slice A11 x.f3.length Ac11]) ∧ HtS w.heap.size w' x A3 Ac3 A4 Ac4 A9 Ac9 A10 Ac10 A11 Ac11 ∧ Below w.heap.size w w'
def ToHit (x : Ht) : Prop := ∀ (A3 : Option Addr) (Ac3 : Nat) (A4 : Option Addr) (Ac4 : Nat) (A9 : Option Addr) (Ac9 : Nat) (A10 : Option Addr) (Ac10 : Nat) (A11 : Option Addr) (Ac11 : Nat) (w : World), HtIn w x A3 Ac3 A4 Ac4 A9 Ac9 A10 Ac10 A11 Ac11 → x.tot ≤ 1048576 →
    Calls Try.prog 64 #[.agg #[.int .i64 x.f0.f0, .string x.f0.f1, .int .i64 x.f0.f2, .slice A3 x.f0.f3.length Ac3, .slice A4 x.f0.f4.length Ac4, .int .i64 x.f1, .int .i64 x.f2.f0, .string x.f2.f1, .int .i64 x.f2.f2, .slice A9 x.f2.f3.length Ac9, .slice A10 x.f2.f4.length Ac10, .slice A11 x.f3.length Ac11]] w (GetHt w x)
set_option maxHeartbeats 4000000 in
set_option maxRecDepth 100000 in
theorem toHitS_of (ks : List Ht) (hks : ∀ k, k ∈ ks → ToHit k) (A : Option Addr) (c : Nat) (w : World) (hr : kH.C w A ks.length ks) (hc : ks.length ≤ c) (ht : totH ks ≤ 1048576) :
    Calls Try.prog 30 #[.slice A ks.length c] w (GetHs w ks) := by
  have hmax := hr.2.1
  have hlen : ks.length ≤ 1048576 := by have := len_totH ks; omega
  have HK := Lib.hid hks
  have HTT := Lib.hid ht
  clear hks ht
  go_enter Try.func30, Try.ntmps30
  go_wp2_with (first | ((with_reducible refine gate_dst (N := 7) rfl ?_); refine Kd.R_make (Kd.raw 12) _ 80 rfl (N := 7) rfl 49 _ _ rfl (ks.length : Int) rfl rfl Try.underlying49 (.agg #[(.int .i64 0), (.string ⟨#[]⟩), (.int .i64 0), (.slice none 0 0), (.slice none 0 0), (.int .i64 0), (.int .i64 0), (.string ⟨#[]⟩), (.int .i64 0), (.slice none 0 0), (.slice none 0 0), (.slice none 0 0)]) 192 infoHt rfl (by decide) (by omega) zc12 (ok := fun _ => True) (okp := fun _ => True) (zc12_raw _ _ _) (fun _ hk => hk) trivial (by omega) (by omega) (Below.refl _ _) (Nat.le_refl _) ?_; intro v0 w0 ho0 hb0 hg0 hn0))
  rw [Int.toNat_natCast] at ho0
  have hz := zeros12_of ho0
  obtain ⟨bn, hbn1, hbn2⟩ := hn0
  have HBN := Lib.hid (And.intro hbn1 hbn2)
  go_loopg [4] ks.length (fun kq v4 w' => ∃ i : Nat, i ≤ ks.length ∧ ks.length - i ≤ kq ∧ v4 = .int .i64 i ∧ Aside0 (∃ inner, w'.ownsRow 0 80 12 v0 ks.length (inner ++ (List.replicate (ks.length - i) zc12).flatten) ∧ HtL (bn + 1) w' (ks.take i) inner) ∧ Aside0 (Below w.heap.size w w'))
  case atStart => exact ⟨0, Nat.zero_le _, by omega, rfl, ⟨[], by simpa using hz, by rw [List.take_zero]; exact .nil⟩, ⟨hb0⟩⟩
  case round =>
    obtain ⟨i, hi, hg, rfl, HO, HW⟩ := hrel
    clear ho0 hz hb0 hg0 hbn1 hbn2
    by_cases hlt : i < ks.length
    · obtain ⟨ad, C3, Cc3, C4, Cc4, C9, Cc9, C10, Cc10, C11, Cc11, e, hcl, hk⟩ := ht_at (Kd.C_below hr HW.out) i hlt
      subst e
      obtain ⟨g0, g1, g2, g3, g4, g5, g6, g7, g8, g9, g10, g11⟩ := ht_cells_at hcl
      clear hcl
      have HC := Lib.hid (HK.out ks[i] (List.getElem_mem hlt) C3 Cc3 C4 Cc4 C9 Cc9 C10 Cc10 C11 Cc11 wr hk (by have := totH_take ks i hlt; have := totH_split ks (i + 1); have := HTT.out; omega))
      have q1 : (0 : Int) ≤ (i : Int) := by omega
      have q2 : (i : Int) < (ks.length : Int) := by omega
      clear hk
      go_wp2_with fail
      refine HC.out.mono ?_
      rintro e w1 ⟨E3, Ec3, E4, Ec4, E9, Ec9, E10, Ec10, E11, Ec11, rfl, HN, hb1⟩
      clear g0 g1 g2 g3 g4 g5 g6 g7 g8 g9 g10 g11
      have HO2 := HO.out
      clear HO
      obtain ⟨inner, ho, htr⟩ := HO2
      rw [show ks.length - i = (ks.length - (i + 1)) + 1 from by omega, List.replicate_succ, List.flatten_cons] at ho
      obtain ⟨g, cap, e, hg0, hg1⟩ := ho.form (by omega)
      subst e
      have hgb : g = bn := by have := HBN.out.1; simpa [Value.ownBlock] using this
      have hgw : w.heap.size ≤ g := by rw [hgb]; exact HBN.out.2
      have ho1 := own_move (w1 := w1) ho (fun k hk => by
        have : g = k := by simpa [Value.ownBlock] using hk
        subst this
        exact hb1.block g hg1)
      have htr1 := htr.move hb1.size (fun b _ hl => hb1.block b hl)
      have hl := htr.len
      rw [List.length_take, Nat.min_eq_left hi] at hl
      obtain ⟨hz, hfz, hput⟩ := row_put12 ho1 hl
      have HF : Hid (∃ inner', (w1.setCells g (i * 12) [.int .i64 ks[i].f0.f0, .string ks[i].f0.f1, .int .i64 ks[i].f0.f2, .slice E3 ks[i].f0.f3.length Ec3, .slice E4 ks[i].f0.f4.length Ec4, .int .i64 ks[i].f1, .int .i64 ks[i].f2.f0, .string ks[i].f2.f1, .int .i64 ks[i].f2.f2, .slice E9 ks[i].f2.f3.length Ec9, .slice E10 ks[i].f2.f4.length Ec10, .slice E11 ks[i].f3.length Ec11]).ownsRow 0 80 12 (.slice (some ⟨g, 0, none⟩) ks.length cap) ks.length (inner' ++ (List.replicate (ks.length - (i + 1)) zc12).flatten) ∧ HtL (bn + 1) (w1.setCells g (i * 12) [.int .i64 ks[i].f0.f0, .string ks[i].f0.f1, .int .i64 ks[i].f0.f2, .slice E3 ks[i].f0.f3.length Ec3, .slice E4 ks[i].f0.f4.length Ec4, .int .i64 ks[i].f1, .int .i64 ks[i].f2.f0, .string ks[i].f2.f1, .int .i64 ks[i].f2.f2, .slice E9 ks[i].f2.f3.length Ec9, .slice E10 ks[i].f2.f4.length Ec10, .slice E11 ks[i].f3.length Ec11]) (ks.take (i + 1)) inner') := by
        rw [setCells12]
        refine ⟨inner ++ htC ks[i] E3 Ec3 E4 Ec4 E9 Ec9 E10 Ec10 E11 Ec11, ?_, ?_⟩
        · rw [List.append_assoc]
          exact hput _ _ _ _ _ _ _ _ _ _ _ _
        · rw [List.take_succ_eq_append_getElem hlt]
          refine HtL.snoc (htr1.move (set12_size _ _ _ _ _ _ _ _ _ _ _ _ _ _ _) (fun b hb _ => set12_far _ _ _ _ _ _ _ _ _ _ _ _ _ _ _ b (by omega))) ?_
          exact (HN.low (show bn + 1 ≤ wr.heap.size by omega)).move (set12_size _ _ _ _ _ _ _ _ _ _ _ _ _ _ _) (fun b hb _ => set12_far _ _ _ _ _ _ _ _ _ _ _ _ _ _ _ b (by omega))
      have HB := Lib.hid (set12_below (below_step HW.out hb1) hgw (i * 12) (.int .i64 ks[i].f0.f0) (.string ks[i].f0.f1) (.int .i64 ks[i].f0.f2) (.slice E3 ks[i].f0.f3.length Ec3) (.slice E4 ks[i].f0.f4.length Ec4) (.int .i64 ks[i].f1) (.int .i64 ks[i].f2.f0) (.string ks[i].f2.f1) (.int .i64 ks[i].f2.f2) (.slice E9 ks[i].f2.f3.length Ec9) (.slice E10 ks[i].f2.f4.length Ec10) (.slice E11 ks[i].f3.length Ec11))
      have hthere : w1.there g (i * 12) 12 := fun j hj => ⟨by
        obtain ⟨u, hu⟩ : ∃ u, (zc12 : List Value)[j]? = some u := ⟨_, List.getElem?_eq_getElem (by simpa using hj)⟩
        rw [hz j u hu]; rfl, hfz _⟩
      replace HB := Lib.hid (show Below w.heap.size w (w1.setCells g (i * 12) [.int .i64 ks[i].f0.f0, .string ks[i].f0.f1, .int .i64 ks[i].f0.f2, .slice E3 ks[i].f0.f3.length Ec3, .slice E4 ks[i].f0.f4.length Ec4, .int .i64 ks[i].f1, .int .i64 ks[i].f2.f0, .string ks[i].f2.f1, .int .i64 ks[i].f2.f2, .slice E9 ks[i].f2.f3.length Ec9, .slice E10 ks[i].f2.f4.length Ec10, .slice E11 ks[i].f3.length Ec11]) by rw [setCells12]; exact HB.out)
      have HTH := Lib.hid hthere

      clear HN ho ho1 htr htr1 hl hfz hput hgw hg0 hg1 hz hgb hthere
      go_wp2_with (first | ((with_reducible refine gate_store (t := 80) (p := 21) rfl ?_); refine wpList_store_mid rfl 80 (.tmp 21) (.tmp 20) rfl g (i * 12) #[.int .i64 ks[i].f0.f0, .string ks[i].f0.f1, .int .i64 ks[i].f0.f2, .slice E3 ks[i].f0.f3.length Ec3, .slice E4 ks[i].f0.f4.length Ec4, .int .i64 ks[i].f1, .int .i64 ks[i].f2.f0, .string ks[i].f2.f1, .int .i64 ks[i].f2.f2, .slice E9 ks[i].f2.f3.length Ec9, .slice E10 ks[i].f2.f4.length Ec10, .slice E11 ks[i].f3.length Ec11] rfl rfl HTH.out infoSz12 (by simp [Value.oneCell']) ?_))
      go_roundg (ks.length - (i + 1))
      case measure => omega
      case rel => exact ⟨i + 1, by omega, Nat.le_refl _, by go_num, ⟨HF.out⟩, ⟨HB.out⟩⟩
    · obtain rfl : i = ks.length := by omega
      have HF : Hid (∃ A c, v0 = .slice A ks.length c ∧ HsS w.heap.size wr ks A c) := by
        obtain ⟨inner, ho, htr⟩ := HO.out
        rw [Nat.sub_self] at ho
        rw [List.take_length] at htr
        refine Lib.hid (HsS.of (by simpa using ho) htr (by have := HBN.out.2; omega) (fun k hk => ?_))
        have := HBN.out.1.symm.trans hk
        have h2 := HBN.out.2
        cases this
        exact h2
      obtain ⟨D, dc, e, hs⟩ := HF.out
      subst e
      have HS := Lib.hid hs
      clear HO HF hs
      go_wp2_with fail
      go_ret
      exact ⟨_, _, rfl, HS.out, HW.out⟩
end Go.Proofs.Ytlklclebjeeaaaa
end
section
namespace Go.Proofs.Ytlklclebjeeaaaa
open Go.RowKit Go.Proofs.YtlklclebjeeaaaaW.PrintWords Go.Proofs.YtlklclebjeeaaaaW.PrintLast Go.Proofs.YtlklclebjeeaaaaW.PrintMore
set_option linter.unusedVariables false
set_option linter.unusedSimpArgs false
set_option maxHeartbeats 8000000 in
set_option maxRecDepth 100000 in
theorem toHit_any (x : Ht) : ToHit x := by
  induction x using Ht.ind with
  | h x ih =>
    intro A3 Ac3 A4 Ac4 A9 Ac9 A10 Ac10 A11 Ac11 w hin ht
    rw [Ht.tot_eq] at ht
    have H1 := Lib.hid (fun W hb => toForm_any x.f0 A3 Ac3 A4 Ac4 W (hin.n.below hb) (by omega))
    have H2 := Lib.hid (fun W hb => toForm_any x.f2 A9 Ac9 A10 Ac10 W (hin.o.below hb) (by omega))
    have H3 := Lib.hid (fun W hb => toHitS_of x.f3 ih A11 Ac11 W (Kd.C_below hin.gm hb) hin.lm (by omega))
    clear ih hin ht
    go_enter Try.func64, Try.ntmps64
    go_wp2_with fail
    refine (H1.out _ (below_step (below_step (below_new _ _) (below_new _ _)) (below_new _ _))).mono ?_
    rintro e w1 ⟨v3, v4, rfl, hN1, hb1⟩
    obtain ⟨k0, k1, k2, b1⟩ := three_new hb1
    obtain ⟨B3, Bc3, B4, Bc4, rfl, rfl, s1⟩ := hN1.st
    have hn1 : w.heap.size + 1 ≠ w.heap.size + 1 + 1 := by omega
    have hn0 : w.heap.size ≠ w.heap.size + 1 + 1 := by omega
    have hlt1 : w.heap.size + 3 ≤ w1.heap.size := by have := blk_lt k2; omega
    have HS1 := Lib.hid (fun W (h : ∀ b, w.heap.size + 3 ≤ b → b < w1.heap.size → W.heap[b]? = w1.heap[b]?) => s1 W (fun b hb hl => h b (by simpa using hb) hl))
    have M0 := Lib.hid k0
    have M1 := Lib.hid k1
    have M2 := Lib.hid k2
    have BW := Lib.hid b1
    clear hb1 hN1 s1 k0 k1 k2 b1
    obtain ⟨p0, p1, p2, p3, p4, p5, p6, p7, p8, p9, p10, p11⟩ := ht_cells M0.out
    obtain ⟨q0, q1, q2, q3, q4, q5, q6, q7, q8, q9, q10, q11⟩ := ht_cells M2.out
    obtain ⟨f0, f1, f2, f3, f4, f5, f6, f7, f8, f9, f10, f11⟩ := ht_free M2.out
    go_wp2_with fail
    clear p0 p1 p2 p3 p4 p5 p6 p7 p8 p9 p10 p11 q0 q1 q2 q3 q4 q5 q6 q7 q8 q9 q10 q11 f0 f1 f2 f3 f4 f5 f6 f7 f8 f9 f10 f11
    refine Calls.mono (H2.out _ (by (repeat (refine below_set ?_ (by omega))); exact BW.out)) ?_
    rintro e w2 ⟨v9, v10, rfl, hN2, hb2⟩
    have m2 : w2.heap[w.heap.size + 1 + 1]? = some (.cells #[.int .i64 x.f0.f0, .string x.f0.f1, .int .i64 x.f0.f2, .slice B3 x.f0.f3.length Bc3, .slice B4 x.f0.f4.length Bc4, .int .i64 x.f1, .int .i64 0, .string ⟨#[]⟩, .int .i64 0, .slice none 0 0, .slice none 0 0, .slice none 0 0] 80 (0, 0)) := blk_below (by simpa using (blk_set (blk_set (blk_set (blk_set (blk_set (blk_set M2.out 0 (.int .i64 x.f0.f0)) 1 (.string x.f0.f1)) 2 (.int .i64 x.f0.f2)) 3 (.slice B3 x.f0.f3.length Bc3)) 4 (.slice B4 x.f0.f4.length Bc4)) 5 (.int .i64 x.f1))) hb2
    have m1 : w2.heap[w.heap.size + 1]? = some (.cells #[.int .i64 0, .string ⟨#[]⟩, .int .i64 0, .slice none 0 0, .slice none 0 0, .int .i64 0, .int .i64 0, .string ⟨#[]⟩, .int .i64 0, .slice none 0 0, .slice none 0 0, .slice none 0 0] 80 (0, 0)) := blk_below (by rw [Below.heap_setCell _ _ _ _ (hn1 : w.heap.size + 1 ≠ w.heap.size + 1 + 1), Below.heap_setCell _ _ _ _ (hn1 : w.heap.size + 1 ≠ w.heap.size + 1 + 1), Below.heap_setCell _ _ _ _ (hn1 : w.heap.size + 1 ≠ w.heap.size + 1 + 1), Below.heap_setCell _ _ _ _ (hn1 : w.heap.size + 1 ≠ w.heap.size + 1 + 1), Below.heap_setCell _ _ _ _ (hn1 : w.heap.size + 1 ≠ w.heap.size + 1 + 1), Below.heap_setCell _ _ _ _ (hn1 : w.heap.size + 1 ≠ w.heap.size + 1 + 1)]; exact M1.out) hb2
    have m0 : w2.heap[w.heap.size]? = some (.cells #[.int .i64 x.f0.f0, .string x.f0.f1, .int .i64 x.f0.f2, .slice A3 x.f0.f3.length Ac3, .slice A4 x.f0.f4.length Ac4, .int .i64 x.f1, .int .i64 x.f2.f0, .string x.f2.f1, .int .i64 x.f2.f2, .slice A9 x.f2.f3.length Ac9, .slice A10 x.f2.f4.length Ac10, .slice A11 x.f3.length Ac11] 78 (0, 0)) := blk_below (by rw [Below.heap_setCell _ _ _ _ (hn0 : w.heap.size ≠ w.heap.size + 1 + 1), Below.heap_setCell _ _ _ _ (hn0 : w.heap.size ≠ w.heap.size + 1 + 1), Below.heap_setCell _ _ _ _ (hn0 : w.heap.size ≠ w.heap.size + 1 + 1), Below.heap_setCell _ _ _ _ (hn0 : w.heap.size ≠ w.heap.size + 1 + 1), Below.heap_setCell _ _ _ _ (hn0 : w.heap.size ≠ w.heap.size + 1 + 1), Below.heap_setCell _ _ _ _ (hn0 : w.heap.size ≠ w.heap.size + 1 + 1)]; exact M0.out) hb2
    have hsz2 : w1.heap.size ≤ w2.heap.size := by have := hb2.size; simpa using this
    have a2 : ∀ b, w.heap.size + 3 ≤ b → b < w1.heap.size → w2.heap[b]? = w1.heap[b]? := fun b h1 h2 => (hb2.block b (by simpa using h2)).trans ((fun (hq : b ≠ w.heap.size + 1 + 1) => by skip; rw [Below.heap_setCell _ _ _ _ hq, Below.heap_setCell _ _ _ _ hq, Below.heap_setCell _ _ _ _ hq, Below.heap_setCell _ _ _ _ hq, Below.heap_setCell _ _ _ _ hq, Below.heap_setCell _ _ _ _ hq]) (by omega))
    have b2 : Below w.heap.size w w2 := below_step (by (repeat (refine below_set ?_ (by omega))); exact BW.out) hb2
    obtain ⟨B9, Bc9, B10, Bc10, rfl, rfl, s2⟩ := hN2.st
    have HS2 := Lib.hid (fun W (h : ∀ b, w.heap.size + 3 ≤ b → b < w2.heap.size → W.heap[b]? = w2.heap[b]?) => s2 W (fun b hb hl => h b (by simp at hb; omega) hl))
    replace M2 := Lib.hid m2
    replace M1 := Lib.hid m1
    replace M0 := Lib.hid m0
    replace BW := Lib.hid b2
    clear m2 m1 m0 b2
    clear hN2 s2 hb2
    obtain ⟨p0, p1, p2, p3, p4, p5, p6, p7, p8, p9, p10, p11⟩ := ht_cells M0.out
    obtain ⟨q0, q1, q2, q3, q4, q5, q6, q7, q8, q9, q10, q11⟩ := ht_cells M2.out
    obtain ⟨f0, f1, f2, f3, f4, f5, f6, f7, f8, f9, f10, f11⟩ := ht_free M2.out
    go_wp2_with fail
    clear p0 p1 p2 p3 p4 p5 p6 p7 p8 p9 p10 p11 q0 q1 q2 q3 q4 q5 q6 q7 q8 q9 q10 q11 f0 f1 f2 f3 f4 f5 f6 f7 f8 f9 f10 f11
    refine Calls.mono (H3.out _ (by (repeat (refine below_set ?_ (by omega))); exact BW.out)) ?_
    rintro e w3 ⟨B11, Bc11, rfl, hN3, hb3⟩
    have m2 : w3.heap[w.heap.size + 1 + 1]? = some (.cells #[.int .i64 x.f0.f0, .string x.f0.f1, .int .i64 x.f0.f2, .slice B3 x.f0.f3.length Bc3, .slice B4 x.f0.f4.length Bc4, .int .i64 x.f1, .int .i64 x.f2.f0, .string x.f2.f1, .int .i64 x.f2.f2, .slice B9 x.f2.f3.length Bc9, .slice B10 x.f2.f4.length Bc10, .slice none 0 0] 80 (0, 0)) := blk_below (by simpa using (blk_set (blk_set (blk_set (blk_set (blk_set M2.out 6 (.int .i64 x.f2.f0)) 7 (.string x.f2.f1)) 8 (.int .i64 x.f2.f2)) 9 (.slice B9 x.f2.f3.length Bc9)) 10 (.slice B10 x.f2.f4.length Bc10))) hb3
    have m1 : w3.heap[w.heap.size + 1]? = some (.cells #[.int .i64 0, .string ⟨#[]⟩, .int .i64 0, .slice none 0 0, .slice none 0 0, .int .i64 0, .int .i64 0, .string ⟨#[]⟩, .int .i64 0, .slice none 0 0, .slice none 0 0, .slice none 0 0] 80 (0, 0)) := blk_below (by rw [Below.heap_setCell _ _ _ _ (hn1 : w.heap.size + 1 ≠ w.heap.size + 1 + 1), Below.heap_setCell _ _ _ _ (hn1 : w.heap.size + 1 ≠ w.heap.size + 1 + 1), Below.heap_setCell _ _ _ _ (hn1 : w.heap.size + 1 ≠ w.heap.size + 1 + 1), Below.heap_setCell _ _ _ _ (hn1 : w.heap.size + 1 ≠ w.heap.size + 1 + 1), Below.heap_setCell _ _ _ _ (hn1 : w.heap.size + 1 ≠ w.heap.size + 1 + 1)]; exact M1.out) hb3
    have m0 : w3.heap[w.heap.size]? = some (.cells #[.int .i64 x.f0.f0, .string x.f0.f1, .int .i64 x.f0.f2, .slice A3 x.f0.f3.length Ac3, .slice A4 x.f0.f4.length Ac4, .int .i64 x.f1, .int .i64 x.f2.f0, .string x.f2.f1, .int .i64 x.f2.f2, .slice A9 x.f2.f3.length Ac9, .slice A10 x.f2.f4.length Ac10, .slice A11 x.f3.length Ac11] 78 (0, 0)) := blk_below (by rw [Below.heap_setCell _ _ _ _ (hn0 : w.heap.size ≠ w.heap.size + 1 + 1), Below.heap_setCell _ _ _ _ (hn0 : w.heap.size ≠ w.heap.size + 1 + 1), Below.heap_setCell _ _ _ _ (hn0 : w.heap.size ≠ w.heap.size + 1 + 1), Below.heap_setCell _ _ _ _ (hn0 : w.heap.size ≠ w.heap.size + 1 + 1), Below.heap_setCell _ _ _ _ (hn0 : w.heap.size ≠ w.heap.size + 1 + 1)]; exact M0.out) hb3
    have hsz3 : w2.heap.size ≤ w3.heap.size := by have := hb3.size; simpa using this
    have a3 : ∀ b, w.heap.size + 3 ≤ b → b < w2.heap.size → w3.heap[b]? = w2.heap[b]? := fun b h1 h2 => (hb3.block b (by simpa using h2)).trans ((fun (hq : b ≠ w.heap.size + 1 + 1) => by skip; rw [Below.heap_setCell _ _ _ _ hq, Below.heap_setCell _ _ _ _ hq, Below.heap_setCell _ _ _ _ hq, Below.heap_setCell _ _ _ _ hq, Below.heap_setCell _ _ _ _ hq]) (by omega))
    have b3 : Below w.heap.size w w3 := below_step (by (repeat (refine below_set ?_ (by omega))); exact BW.out) hb3
    have HS3 := Lib.hid (fun W (hs : w3.heap.size ≤ W.heap.size) (h : ∀ b, w.heap.size + 3 ≤ b → b < w3.heap.size → W.heap[b]? = w3.heap[b]?) => hN3.2 W hs (fun b hb hl => h b (by simp at hb; omega) hl))
    have HL3 := Lib.hid hN3.1
    replace M2 := Lib.hid m2
    replace M1 := Lib.hid m1
    replace M0 := Lib.hid m0
    replace BW := Lib.hid b3
    clear m2 m1 m0 b3
    clear hN3 hb3
    obtain ⟨p0, p1, p2, p3, p4, p5, p6, p7, p8, p9, p10, p11⟩ := ht_cells M0.out
    obtain ⟨q0, q1, q2, q3, q4, q5, q6, q7, q8, q9, q10, q11⟩ := ht_cells M2.out
    obtain ⟨f0, f1, f2, f3, f4, f5, f6, f7, f8, f9, f10, f11⟩ := ht_free M2.out
    have HTH := Lib.hid (show (w3.setCell ⟨w.heap.size + 1 + 1, 11, none⟩ (.slice B11 x.f3.length Bc11)).there (w.heap.size + 1) 0 12 from fun j hj => by
      have hk : (w3.setCell ⟨w.heap.size + 1 + 1, 11, none⟩ (.slice B11 x.f3.length Bc11)).heap[w.heap.size + 1]? = some (.cells #[.int .i64 0, .string ⟨#[]⟩, .int .i64 0, .slice none 0 0, .slice none 0 0, .int .i64 0, .int .i64 0, .string ⟨#[]⟩, .int .i64 0, .slice none 0 0, .slice none 0 0, .slice none 0 0] 80 (0, 0)) := by rw [Below.heap_setCell _ _ _ _ hn1]; exact M1.out
      refine ⟨?_, blk_frozen hk _⟩
      rw [Nat.zero_add, blk_cell hk j]
      have : j < (zc12 : List Value).length := by simpa using hj
      simp [Array.getElem?_eq_getElem, hj])
    go_wp2_with (first | ((with_reducible refine gate_store (t := 80) (p := 2) rfl ?_); refine wpList_store_mid rfl 80 (.tmp 2) (.tmp 19) rfl (w.heap.size + 1) 0 #[.int .i64 x.f0.f0, .string x.f0.f1, .int .i64 x.f0.f2, .slice B3 x.f0.f3.length Bc3, .slice B4 x.f0.f4.length Bc4, .int .i64 x.f1, .int .i64 x.f2.f0, .string x.f2.f1, .int .i64 x.f2.f2, .slice B9 x.f2.f3.length Bc9, .slice B10 x.f2.f4.length Bc10, .slice B11 x.f3.length Bc11] rfl rfl HTH.out infoSz12 (by simp [Value.oneCell']) ?_))
    clear p0 p1 p2 p3 p4 p5 p6 p7 p8 p9 p10 p11 q0 q1 q2 q3 q4 q5 q6 q7 q8 q9 q10 q11 f0 f1 f2 f3 f4 f5 f6 f7 f8 f9 f10 f11
    have mR : ((w3.setCell ⟨w.heap.size + 1 + 1, 11, none⟩ (.slice B11 x.f3.length Bc11)).setCells (w.heap.size + 1) 0 [.int .i64 x.f0.f0, .string x.f0.f1, .int .i64 x.f0.f2, .slice B3 x.f0.f3.length Bc3, .slice B4 x.f0.f4.length Bc4, .int .i64 x.f1, .int .i64 x.f2.f0, .string x.f2.f1, .int .i64 x.f2.f2, .slice B9 x.f2.f3.length Bc9, .slice B10 x.f2.f4.length Bc10, .slice B11 x.f3.length Bc11]).heap[w.heap.size + 1]? = some (.cells #[.int .i64 x.f0.f0, .string x.f0.f1, .int .i64 x.f0.f2, .slice B3 x.f0.f3.length Bc3, .slice B4 x.f0.f4.length Bc4, .int .i64 x.f1, .int .i64 x.f2.f0, .string x.f2.f1, .int .i64 x.f2.f2, .slice B9 x.f2.f3.length Bc9, .slice B10 x.f2.f4.length Bc10, .slice B11 x.f3.length Bc11] 80 (0, 0)) := by
      rw [setCells12]
      have hk : (w3.setCell ⟨w.heap.size + 1 + 1, 11, none⟩ (.slice B11 x.f3.length Bc11)).heap[w.heap.size + 1]? = some (.cells #[.int .i64 0, .string ⟨#[]⟩, .int .i64 0, .slice none 0 0, .slice none 0 0, .int .i64 0, .int .i64 0, .string ⟨#[]⟩, .int .i64 0, .slice none 0 0, .slice none 0 0, .slice none 0 0] 80 (0, 0)) := by rw [Below.heap_setCell _ _ _ _ hn1]; exact M1.out
      simpa using (blk_set (blk_set (blk_set (blk_set (blk_set (blk_set (blk_set (blk_set (blk_set (blk_set (blk_set (blk_set hk 0 (.int .i64 x.f0.f0)) 1 (.string x.f0.f1)) 2 (.int .i64 x.f0.f2)) 3 (.slice B3 x.f0.f3.length Bc3)) 4 (.slice B4 x.f0.f4.length Bc4)) 5 (.int .i64 x.f1)) 6 (.int .i64 x.f2.f0)) 7 (.string x.f2.f1)) 8 (.int .i64 x.f2.f2)) 9 (.slice B9 x.f2.f3.length Bc9)) 10 (.slice B10 x.f2.f4.length Bc10)) 11 (.slice B11 x.f3.length Bc11))
    obtain ⟨u0, u1, u2, u3, u4, u5, u6, u7, u8, u9, u10, u11⟩ := ht_cells mR
    have f1 : ∀ b, w.heap.size + 3 ≤ b → ((w3.setCell ⟨w.heap.size + 1 + 1, 11, none⟩ (.slice B11 x.f3.length Bc11)).setCells (w.heap.size + 1) 0 [.int .i64 x.f0.f0, .string x.f0.f1, .int .i64 x.f0.f2, .slice B3 x.f0.f3.length Bc3, .slice B4 x.f0.f4.length Bc4, .int .i64 x.f1, .int .i64 x.f2.f0, .string x.f2.f1, .int .i64 x.f2.f2, .slice B9 x.f2.f3.length Bc9, .slice B10 x.f2.f4.length Bc10, .slice B11 x.f3.length Bc11]).heap[b]? = w3.heap[b]? := fun b hb => by
      rw [setCells12, set12_far _ _ _ _ _ _ _ _ _ _ _ _ _ _ _ b (by omega)]
      exact Below.heap_setCell _ _ _ _ (show b ≠ w.heap.size + 1 + 1 by omega)
    have f2 : w3.heap.size ≤ ((w3.setCell ⟨w.heap.size + 1 + 1, 11, none⟩ (.slice B11 x.f3.length Bc11)).setCells (w.heap.size + 1) 0 [.int .i64 x.f0.f0, .string x.f0.f1, .int .i64 x.f0.f2, .slice B3 x.f0.f3.length Bc3, .slice B4 x.f0.f4.length Bc4, .int .i64 x.f1, .int .i64 x.f2.f0, .string x.f2.f1, .int .i64 x.f2.f2, .slice B9 x.f2.f3.length Bc9, .slice B10 x.f2.f4.length Bc10, .slice B11 x.f3.length Bc11]).heap.size := by
      rw [setCells12]
      exact Nat.le_trans (by simp) (set12_size _ _ _ _ _ _ _ _ _ _ _ _ _ _ _)
    have bF : Below w.heap.size w ((w3.setCell ⟨w.heap.size + 1 + 1, 11, none⟩ (.slice B11 x.f3.length Bc11)).setCells (w.heap.size + 1) 0 [.int .i64 x.f0.f0, .string x.f0.f1, .int .i64 x.f0.f2, .slice B3 x.f0.f3.length Bc3, .slice B4 x.f0.f4.length Bc4, .int .i64 x.f1, .int .i64 x.f2.f0, .string x.f2.f1, .int .i64 x.f2.f2, .slice B9 x.f2.f3.length Bc9, .slice B10 x.f2.f4.length Bc10, .slice B11 x.f3.length Bc11]) := by
      rw [setCells12]
      exact set12_below (below_set BW.out (by omega)) (by omega) 0 _ _ _ _ _ _ _ _ _ _ _ _
    have hF : HtS w.heap.size ((w3.setCell ⟨w.heap.size + 1 + 1, 11, none⟩ (.slice B11 x.f3.length Bc11)).setCells (w.heap.size + 1) 0 [.int .i64 x.f0.f0, .string x.f0.f1, .int .i64 x.f0.f2, .slice B3 x.f0.f3.length Bc3, .slice B4 x.f0.f4.length Bc4, .int .i64 x.f1, .int .i64 x.f2.f0, .string x.f2.f1, .int .i64 x.f2.f2, .slice B9 x.f2.f3.length Bc9, .slice B10 x.f2.f4.length Bc10, .slice B11 x.f3.length Bc11]) x B3 Bc3 B4 Bc4 B9 Bc9 B10 Bc10 B11 Bc11 := fun V hs hm => by
      have g3 : ∀ b, w.heap.size + 3 ≤ b → b < w3.heap.size → V.heap[b]? = w3.heap[b]? := fun b h1 h2 => (hm b (by omega) (by omega)).trans (f1 b h1)
      have g2 : ∀ b, w.heap.size + 3 ≤ b → b < w2.heap.size → V.heap[b]? = w2.heap[b]? := fun b h1 h2 => (g3 b h1 (by omega)).trans (a3 b h1 h2)
      have g1 : ∀ b, w.heap.size + 3 ≤ b → b < w1.heap.size → V.heap[b]? = w1.heap[b]? := fun b h1 h2 => (g2 b h1 (by omega)).trans (a2 b h1 h2)
      exact ⟨HS1.out V g1, HS2.out V g2, HL3.out, HS3.out V (by omega) g3⟩
    refine bodyPost_ret (v := .agg #[.int .i64 x.f0.f0, .string x.f0.f1, .int .i64 x.f0.f2, .slice B3 x.f0.f3.length Bc3, .slice B4 x.f0.f4.length Bc4, .int .i64 x.f1, .int .i64 x.f2.f0, .string x.f2.f1, .int .i64 x.f2.f2, .slice B9 x.f2.f3.length Bc9, .slice B10 x.f2.f4.length Bc10, .slice B11 x.f3.length Bc11]) (by simp [results, Try.results64, go_sem, u0, u1, u2, u3, u4, u5, u6, u7, u8, u9, u10, u11]) rfl ⟨_, _, _, _, _, _, _, _, _, _, rfl, hF, bF⟩
theorem toHitS_any (ks : List Ht) (A : Option Addr) (c : Nat) (w : World) (hr : kH.C w A ks.length ks) (hc : ks.length ≤ c) (ht : totH ks ≤ 1048576) :
    Calls Try.prog 30 #[.slice A ks.length c] w (GetHs w ks) := toHitS_of ks (fun k _ => toHit_any k) A c w hr hc ht
end Go.Proofs.Ytlklclebjeeaaaa
end
section
namespace Go.Proofs.Ytlklclebjeeaaaa
open Go.RowKit Go.Proofs.YtlklclebjeeaaaaW.PrintWords Go.Proofs.YtlklclebjeeaaaaW.PrintLast Go.Proofs.YtlklclebjeeaaaaW.PrintMore
set_option linter.unusedVariables false
set_option linter.unusedSimpArgs false

noncomputable def eqB {α : Type} (x y : α) : Bool := @decide (x = y) (Classical.propDecidable _)
theorem eqB_iff {α : Type} {x y : α} : eqB x y = true ↔ x = y := by unfold eqB; exact @decide_eq_true_iff _ (Classical.propDecidable _)
theorem eqB_self {α : Type} (x : α) : eqB x x = true := eqB_iff.2 rfl
theorem eqB_no {α : Type} {x y : α} (h : x ≠ y) : false = eqB x y := by
  cases hb : eqB x y with
  | true => exact absurd (eqB_iff.1 hb) h
  | false => rfl
theorem eqB_yes {α : Type} {x y : α} (h : x = y) : true = eqB x y := (eqB_iff.2 h).symm
theorem toList_inj {a b : ByteArray} (h : a.toList = b.toList) : a = b := by
  have e : ∀ s : ByteArray, s.toList = s.data.toList := fun s => by rw [ByteArray.toList_eq]
  rw [e, e] at h
  cases a; cases b
  simp only at h
  rw [Array.toList_inj.1 h]
theorem Fm.ext' {x y : Fm} (h1 : x.f0 = y.f0) (h2 : x.f1 = y.f1) (h3 : x.f2 = y.f2) (h4 : x.f3 = y.f3) (h5 : x.f4 = y.f4) : x = y := by
  cases x; cases y; simp_all
def EqForm (x : Fm) : Prop := ∀ (y : Fm) (A3 : Option Addr) (c3 : Nat) (A4 : Option Addr) (c4 : Nat) (B3 : Option Addr) (d3 : Nat) (B4 : Option Addr) (d4 : Nat) (w : World), FmIn w x A3 c3 A4 c4 → FmIn w y B3 d3 B4 d4 →
    Calls Try.prog 18 #[.agg #[.int .i64 x.f0, .string x.f1, .int .i64 x.f2, .slice A3 x.f3.length c3, .slice A4 x.f4.length c4], .agg #[.int .i64 y.f0, .string y.f1, .int .i64 y.f2, .slice B3 y.f3.length d3, .slice B4 y.f4.length d4]] w (Ret w (.bool (eqB x y)))
set_option maxHeartbeats 4000000 in
set_option maxRecDepth 100000 in
theorem eqFormS_of (ks ls : List Fm) (hks : ∀ k, k ∈ ks → EqForm k) (A B : Option Addr) (c d : Nat) (w : World) (hr : kF.C w A ks.length ks) (hc : ks.length ≤ c) (hr2 : kF.C w B ls.length ls) (hc2 : ls.length ≤ d) :
    Calls Try.prog 39 #[.slice A ks.length c, .slice B ls.length d] w (Ret w (.bool (eqB ks ls))) := by
  have hmax := hr.2.1
  by_cases hl : ks.length = ls.length
  · have hl1 : ((ks.length : Int) == (ls.length : Int)) = true := by simp [hl]
    have hl2 : ((ks.length : Int) != (ls.length : Int)) = false := by simp [hl]
    have hl3 : (ks.length == ls.length) = true := by simp [hl]
    have hl4 : (ks.length != ls.length) = false := by simp [hl]
    have HL := Lib.hid hl
    have HK := Lib.hid hks
    clear hl hks
    go_enter Try.func39, Try.ntmps39
    go_wp2_with fail
    go_loopg [5] ks.length (fun kq v5 w' => ∃ i : Nat, i ≤ ks.length ∧ ks.length - i ≤ kq ∧ v5 = .int .i64 i ∧ Aside0 (∀ j (h : j < ks.length) (h2 : j < ls.length), j < i → ks[j] = ls[j]) ∧ Aside0 (Below w.heap.size w w'))
    case atStart => exact ⟨0, Nat.zero_le _, by omega, rfl, ⟨fun j _ _ h => absurd h (by omega)⟩, ⟨Below.refl _ _⟩⟩
    case round =>
      obtain ⟨i, hi, hg, rfl, HN, HW⟩ := hrel
      by_cases hlt : i < ks.length
      · have hlt2 : i < ls.length := by have := HL.out; omega
        obtain ⟨ad, B3, d3, B4, d4, e, g0, g1, g2, g3, g4, hk⟩ := kid_at (Kd.C_below hr HW.out) i hlt
        subst e
        obtain ⟨ad2, E3, f3, E4, f4, e2, h0, h1, h2, h3, h4, hk2⟩ := kid_at (Kd.C_below hr2 HW.out) i hlt2
        subst e2
        have HC := Lib.hid (fun W (hb : Below wr.heap.size wr W) => HK.out ks[i] (List.getElem_mem hlt) ls[i] B3 d3 B4 d4 E3 f3 E4 f4 W (hk.below hb) (hk2.below hb))
        clear hk hk2
        have p1 : (0 : Int) ≤ (i : Int) := by omega
        have p2 : (i : Int) < (ks.length : Int) := by omega
        have p3 : (i : Int) < (ls.length : Int) := by omega
        go_wp2_with fail
        go_region_held3 (fun w' => w'.cell? (ad.add (i * 5)) = some (.int .i64 ks[i].f0) ∧ w'.cell? ⟨(ad.add (i * 5)).block, (ad.add (i * 5)).off + 1, none⟩ = some (.string ks[i].f1) ∧ w'.cell? ⟨(ad.add (i * 5)).block, (ad.add (i * 5)).off + 2, none⟩ = some (.int .i64 ks[i].f2) ∧ w'.cell? ⟨(ad.add (i * 5)).block, (ad.add (i * 5)).off + 3, none⟩ = some (.slice B3 ks[i].f3.length d3) ∧ w'.cell? ⟨(ad.add (i * 5)).block, (ad.add (i * 5)).off + 4, none⟩ = some (.slice B4 ks[i].f4.length d4) ∧ w'.cell? (ad2.add (i * 5)) = some (.int .i64 ls[i].f0) ∧ w'.cell? ⟨(ad2.add (i * 5)).block, (ad2.add (i * 5)).off + 1, none⟩ = some (.string ls[i].f1) ∧ w'.cell? ⟨(ad2.add (i * 5)).block, (ad2.add (i * 5)).off + 2, none⟩ = some (.int .i64 ls[i].f2) ∧ w'.cell? ⟨(ad2.add (i * 5)).block, (ad2.add (i * 5)).off + 3, none⟩ = some (.slice E3 ls[i].f3.length f3) ∧ w'.cell? ⟨(ad2.add (i * 5)).block, (ad2.add (i * 5)).off + 4, none⟩ = some (.slice E4 ls[i].f4.length f4)) (first | go_keep | exact ⟨ck hb1 g0, ck hb1 g1, ck hb1 g2, ck hb1 g3, ck hb1 g4, ck hb1 h0, ck hb1 h1, ck hb1 h2, ck hb1 h3, ck hb1 h4⟩) ((go_at_call 18; refine (HC.out _ (Below.refl _ _).drew).mono ?_; rintro e w1 ⟨rfl, hb1⟩))
        cases he : eqB ks[i] ls[i] with
        | true =>
          have HE := Lib.hid (eqB_iff.1 he)
          clear he
          go_wp2_with fail
          go_roundg (ks.length - (i + 1))
          case measure => omega
          case rel =>
            refine ⟨i + 1, by omega, Nat.le_refl _, by go_num, ⟨fun j hj hj2 hji => ?_⟩, ⟨below_step HW.out (below_step (Below.refl _ _).drew hb1)⟩⟩
            rcases Nat.lt_or_ge j i with h | h
            · exact HN.out j hj hj2 h
            · obtain rfl : j = i := by omega
              exact HE.out
        | false =>
          have HE := Lib.hid he
          clear he
          go_wp2_with fail
          go_ret
          refine ⟨ret_b (eqB_no (fun h => ?_)), below_step HW.out (below_step (Below.refl _ _).drew hb1)⟩
          have := HE.out
          subst h
          rw [eqB_self] at this
          cases this
      · obtain rfl : i = ks.length := by omega
        go_wp2_with fail
        go_ret
        exact ⟨ret_b (eqB_yes (List.ext_getElem HL.out (fun j hj hj2 => HN.out j hj hj2 hj))), HW.out⟩
  · have hl2 : ((ks.length : Int) != (ls.length : Int)) = true := by simp; omega
    have hl4 : (ks.length != ls.length) = true := by simp [hl]
    have hl1 : ((ks.length : Int) == (ls.length : Int)) = false := by rw [beq_eq_false_iff_ne]; omega
    have hl3 : (ks.length == ls.length) = false := by rw [beq_eq_false_iff_ne]; omega
    have HL := Lib.hid hl
    clear hl
    go_enter Try.func39, Try.ntmps39
    go_wp2_with fail
    go_ret
    exact ⟨ret_b (eqB_no (fun h => HL.out (by rw [h]))), Below.refl _ _⟩
set_option maxHeartbeats 4000000 in
theorem eqForm_any (x : Fm) : EqForm x := by
  induction x using Fm.ind with
  | h x ih =>
    intro y A3 c3 A4 c4 B3 d3 B4 d4 w hx hy
    have HX := Lib.hid (fun (h1 : x.f0 = y.f0) (h2 : x.f1 = y.f1) (h3 : x.f2 = y.f2) (h4 : x.f3 = y.f3) (h5 : x.f4 = y.f4) => Fm.ext' h1 h2 h3 h4 h5)
    have hb1 := below_new w (.cells #[.int .i64 x.f0, .string x.f1, .int .i64 x.f2, .slice A3 x.f3.length c3, .slice A4 x.f4.length c4] 34)
    have hb2 := below_step hb1 (below_new _ (.cells #[.int .i64 y.f0, .string y.f1, .int .i64 y.f2, .slice B3 y.f3.length d3, .slice B4 y.f4.length d4] 34))
    have HB := Lib.hid hb2
    by_cases e1 : x.f0 = y.f0
    · have t1 : (x.f0 == y.f0) = true := by simpa using e1
      have t1' : (x.f0 != y.f0) = false := by simpa using e1
      have E1 := Lib.hid e1
      clear e1
      by_cases e2 : x.f1 = y.f1
      · have t2 : (x.f1.toList == y.f1.toList) = true := by rw [e2]; simp
        have t2' : (x.f1.toList != y.f1.toList) = false := by rw [e2]; simp
        have E2 := Lib.hid e2
        clear e2
        by_cases e3 : x.f2 = y.f2
        · have t3 : (x.f2 == y.f2) = true := by simpa using e3
          have t3' : (x.f2 != y.f2) = false := by simpa using e3
          have E3 := Lib.hid e3
          clear e3
          have HC := Lib.hid (eqIntS_any x.f3 y.f3 A3 B3 c3 d3 _ (Kd.C_below hx.g3 hb2) hx.l3 (Kd.C_below hy.g3 hb2) hy.l3)
          have HK := Lib.hid (fun W hb => eqFormS_of x.f4 y.f4 ih A4 B4 c4 d4 W (Kd.C_below hx.g4 hb) hx.l4 (Kd.C_below hy.g4 hb) hy.l4)
          clear ih hx hy hb1 hb2
          go_enter Try.func18, Try.ntmps18
          go_wp2_with fail
          refine HC.out.mono ?_
          rintro e w1 ⟨rfl, k1⟩
          have hz := blk_below (blk_below (blk_new w (.cells #[.int .i64 x.f0, .string x.f1, .int .i64 x.f2, .slice A3 x.f3.length c3, .slice A4 x.f4.length c4] 34)) (below_new _ _)) k1
          have hz2 := blk_below (blk_new (w.alloc (.cells #[.int .i64 x.f0, .string x.f1, .int .i64 x.f2, .slice A3 x.f3.length c3, .slice A4 x.f4.length c4] 34)) (.cells #[.int .i64 y.f0, .string y.f1, .int .i64 y.f2, .slice B3 y.f3.length d3, .slice B4 y.f4.length d4] 34)) k1
          rw [show (w.alloc (.cells #[.int .i64 x.f0, .string x.f1, .int .i64 x.f2, .slice A3 x.f3.length c3, .slice A4 x.f4.length c4] 34)).heap.size = w.heap.size + 1 from by simp] at hz2
          obtain ⟨_, _, _, _, q4⟩ := fm_cells hz
          obtain ⟨_, _, _, _, r4⟩ := fm_cells hz2
          have K1 := Lib.hid (below_step HB.out k1)
          clear hz hz2 k1
          by_cases e4 : x.f3 = y.f3
          · have E4 := Lib.hid e4
            rw [decide_eq_true e4]
            clear e4
            go_wp2_with fail
            refine (HK.out _ K1.out).mono ?_
            rintro e w2 ⟨rfl, k2⟩
            cases e5 : eqB x.f4 y.f4 with
            | true =>
              have E5 := Lib.hid (eqB_iff.1 e5)
              clear e5
              go_wp2_with fail
              go_ret
              exact ⟨ret_b (eqB_yes (HX.out E1.out E2.out E3.out E4.out E5.out)), below_step K1.out k2⟩
            | false =>
              have E5 := Lib.hid e5
              clear e5
              go_wp2_with fail
              go_ret
              refine ⟨ret_b (eqB_no (fun h => ?_)), below_step K1.out k2⟩
              have := E5.out
              rw [h, eqB_self] at this
              cases this
          · have E4 := Lib.hid e4
            rw [decide_eq_false e4]
            clear e4
            go_wp2_with fail
            go_ret
            exact ⟨ret_b (eqB_no (fun h => E4.out (by rw [h]))), K1.out⟩
        · have t3 : (x.f2 == y.f2) = false := by simpa using e3
          have t3' : (x.f2 != y.f2) = true := by simpa using e3
          have E3 := Lib.hid e3
          clear e3 ih hx hy hb1 hb2
          go_enter Try.func18, Try.ntmps18
          go_wp2_with fail
          go_ret
          exact ⟨ret_b (eqB_no (fun h => E3.out (by rw [h]))), HB.out⟩
      · have t2 : (x.f1.toList == y.f1.toList) = false := by rw [beq_eq_false_iff_ne]; exact fun h => e2 (toList_inj h)
        have t2' : (x.f1.toList != y.f1.toList) = true := by rw [bne_iff_ne]; exact fun h => e2 (toList_inj h)
        have E2 := Lib.hid e2
        clear e2 ih hx hy hb1 hb2
        go_enter Try.func18, Try.ntmps18
        go_wp2_with fail
        go_ret
        exact ⟨ret_b (eqB_no (fun h => E2.out (by rw [h]))), HB.out⟩
    · have t1 : (x.f0 == y.f0) = false := by simpa using e1
      have t1' : (x.f0 != y.f0) = true := by simpa using e1
      have E1 := Lib.hid e1
      clear e1 ih hx hy hb1 hb2
      go_enter Try.func18, Try.ntmps18
      go_wp2_with fail
      go_ret
      exact ⟨ret_b (eqB_no (fun h => E1.out (by rw [h]))), HB.out⟩
end Go.Proofs.Ytlklclebjeeaaaa
end
section
namespace Go.Proofs.Ytlklclebjeeaaaa
open Go.RowKit Go.Proofs.YtlklclebjeeaaaaW.PrintWords Go.Proofs.YtlklclebjeeaaaaW.PrintLast Go.Proofs.YtlklclebjeeaaaaW.PrintMore
set_option linter.unusedVariables false
set_option linter.unusedSimpArgs false
def EqHit (x : Ht) : Prop := ∀ (A3 : Option Addr) (Ac3 : Nat) (A4 : Option Addr) (Ac4 : Nat) (A9 : Option Addr) (Ac9 : Nat) (A10 : Option Addr) (Ac10 : Nat) (A11 : Option Addr) (Ac11 : Nat) (B3 : Option Addr) (Bc3 : Nat) (B4 : Option Addr) (Bc4 : Nat) (B9 : Option Addr) (Bc9 : Nat) (B10 : Option Addr) (Bc10 : Nat) (B11 : Option Addr) (Bc11 : Nat) (w : World), HtIn w x A3 Ac3 A4 Ac4 A9 Ac9 A10 Ac10 A11 Ac11 → HtIn w x B3 Bc3 B4 Bc4 B9 Bc9 B10 Bc10 B11 Bc11 →
    Calls Try.prog 67 #[.agg #[.int .i64 x.f0.f0, .string x.f0.f1, .int .i64 x.f0.f2, .slice A3 x.f0.f3.length Ac3, .slice A4 x.f0.f4.length Ac4, .int .i64 x.f1, .int .i64 x.f2.f0, .string x.f2.f1, .int .i64 x.f2.f2, .slice A9 x.f2.f3.length Ac9, .slice A10 x.f2.f4.length Ac10, .slice A11 x.f3.length Ac11], .agg #[.int .i64 x.f0.f0, .string x.f0.f1, .int .i64 x.f0.f2, .slice B3 x.f0.f3.length Bc3, .slice B4 x.f0.f4.length Bc4, .int .i64 x.f1, .int .i64 x.f2.f0, .string x.f2.f1, .int .i64 x.f2.f2, .slice B9 x.f2.f3.length Bc9, .slice B10 x.f2.f4.length Bc10, .slice B11 x.f3.length Bc11]] w (Ret w (.bool true))
set_option maxHeartbeats 4000000 in
set_option maxRecDepth 100000 in
theorem eqHitS_of (ks : List Ht) (hks : ∀ k, k ∈ ks → EqHit k) (A B : Option Addr) (c d : Nat) (w : World) (hr : kH.C w A ks.length ks) (hc : ks.length ≤ c) (hr2 : kH.C w B ks.length ks) (hc2 : ks.length ≤ d) :
    Calls Try.prog 32 #[.slice A ks.length c, .slice B ks.length d] w (Ret w (.bool true)) := by
  have hmax := hr.2.1
  have HK := Lib.hid hks
  clear hks
  go_enter Try.func32, Try.ntmps32
  go_wp2_with fail
  go_loopg [5] ks.length (fun kq v5 w' => ∃ i : Nat, i ≤ ks.length ∧ ks.length - i ≤ kq ∧ v5 = .int .i64 i ∧ Aside0 (Below w.heap.size w w'))
  case atStart => exact ⟨0, Nat.zero_le _, by omega, rfl, ⟨Below.refl _ _⟩⟩
  case round =>
    obtain ⟨i, hi, hg, rfl, HW⟩ := hrel
    by_cases hlt : i < ks.length
    · obtain ⟨ad, X3, Xc3, X4, Xc4, X9, Xc9, X10, Xc10, X11, Xc11, e, hcl, hk⟩ := ht_at (Kd.C_below hr HW.out) i hlt
      subst e
      obtain ⟨g0, g1, g2, g3, g4, g5, g6, g7, g8, g9, g10, g11⟩ := ht_cells_at hcl
      clear hcl
      obtain ⟨ad2, Y3, Yc3, Y4, Yc4, Y9, Yc9, Y10, Yc10, Y11, Yc11, e2, hcl, hk2⟩ := ht_at (Kd.C_below hr2 HW.out) i hlt
      subst e2
      obtain ⟨h0, h1, h2, h3, h4, h5, h6, h7, h8, h9, h10, h11⟩ := ht_cells_at hcl
      clear hcl
      have HC := Lib.hid (fun W (hb : Below wr.heap.size wr W) => HK.out ks[i] (List.getElem_mem hlt) X3 Xc3 X4 Xc4 X9 Xc9 X10 Xc10 X11 Xc11 Y3 Yc3 Y4 Yc4 Y9 Yc9 Y10 Yc10 Y11 Yc11 W (hk.below hb) (hk2.below hb))
      clear hk hk2
      have p1 : (0 : Int) ≤ (i : Int) := by omega
      have p2 : (i : Int) < (ks.length : Int) := by omega
      go_wp2_with fail
      go_region_held3 (fun w' => w'.cell? (ad.add (i * 12)) = some (.int .i64 ks[i].f0.f0) ∧ w'.cell? ⟨(ad.add (i * 12)).block, (ad.add (i * 12)).off + 1, none⟩ = some (.string ks[i].f0.f1) ∧ w'.cell? ⟨(ad.add (i * 12)).block, (ad.add (i * 12)).off + 2, none⟩ = some (.int .i64 ks[i].f0.f2) ∧ w'.cell? ⟨(ad.add (i * 12)).block, (ad.add (i * 12)).off + 3, none⟩ = some (.slice X3 ks[i].f0.f3.length Xc3) ∧ w'.cell? ⟨(ad.add (i * 12)).block, (ad.add (i * 12)).off + 4, none⟩ = some (.slice X4 ks[i].f0.f4.length Xc4) ∧ w'.cell? ⟨(ad.add (i * 12)).block, (ad.add (i * 12)).off + 5, none⟩ = some (.int .i64 ks[i].f1) ∧ w'.cell? ⟨(ad.add (i * 12)).block, (ad.add (i * 12)).off + 6, none⟩ = some (.int .i64 ks[i].f2.f0) ∧ w'.cell? ⟨(ad.add (i * 12)).block, (ad.add (i * 12)).off + 7, none⟩ = some (.string ks[i].f2.f1) ∧ w'.cell? ⟨(ad.add (i * 12)).block, (ad.add (i * 12)).off + 8, none⟩ = some (.int .i64 ks[i].f2.f2) ∧ w'.cell? ⟨(ad.add (i * 12)).block, (ad.add (i * 12)).off + 9, none⟩ = some (.slice X9 ks[i].f2.f3.length Xc9) ∧ w'.cell? ⟨(ad.add (i * 12)).block, (ad.add (i * 12)).off + 10, none⟩ = some (.slice X10 ks[i].f2.f4.length Xc10) ∧ w'.cell? ⟨(ad.add (i * 12)).block, (ad.add (i * 12)).off + 11, none⟩ = some (.slice X11 ks[i].f3.length Xc11) ∧ w'.cell? (ad2.add (i * 12)) = some (.int .i64 ks[i].f0.f0) ∧ w'.cell? ⟨(ad2.add (i * 12)).block, (ad2.add (i * 12)).off + 1, none⟩ = some (.string ks[i].f0.f1) ∧ w'.cell? ⟨(ad2.add (i * 12)).block, (ad2.add (i * 12)).off + 2, none⟩ = some (.int .i64 ks[i].f0.f2) ∧ w'.cell? ⟨(ad2.add (i * 12)).block, (ad2.add (i * 12)).off + 3, none⟩ = some (.slice Y3 ks[i].f0.f3.length Yc3) ∧ w'.cell? ⟨(ad2.add (i * 12)).block, (ad2.add (i * 12)).off + 4, none⟩ = some (.slice Y4 ks[i].f0.f4.length Yc4) ∧ w'.cell? ⟨(ad2.add (i * 12)).block, (ad2.add (i * 12)).off + 5, none⟩ = some (.int .i64 ks[i].f1) ∧ w'.cell? ⟨(ad2.add (i * 12)).block, (ad2.add (i * 12)).off + 6, none⟩ = some (.int .i64 ks[i].f2.f0) ∧ w'.cell? ⟨(ad2.add (i * 12)).block, (ad2.add (i * 12)).off + 7, none⟩ = some (.string ks[i].f2.f1) ∧ w'.cell? ⟨(ad2.add (i * 12)).block, (ad2.add (i * 12)).off + 8, none⟩ = some (.int .i64 ks[i].f2.f2) ∧ w'.cell? ⟨(ad2.add (i * 12)).block, (ad2.add (i * 12)).off + 9, none⟩ = some (.slice Y9 ks[i].f2.f3.length Yc9) ∧ w'.cell? ⟨(ad2.add (i * 12)).block, (ad2.add (i * 12)).off + 10, none⟩ = some (.slice Y10 ks[i].f2.f4.length Yc10) ∧ w'.cell? ⟨(ad2.add (i * 12)).block, (ad2.add (i * 12)).off + 11, none⟩ = some (.slice Y11 ks[i].f3.length Yc11)) (first | go_keep | exact ⟨ck hb1 g0, ck hb1 g1, ck hb1 g2, ck hb1 g3, ck hb1 g4, ck hb1 g5, ck hb1 g6, ck hb1 g7, ck hb1 g8, ck hb1 g9, ck hb1 g10, ck hb1 g11, ck hb1 h0, ck hb1 h1, ck hb1 h2, ck hb1 h3, ck hb1 h4, ck hb1 h5, ck hb1 h6, ck hb1 h7, ck hb1 h8, ck hb1 h9, ck hb1 h10, ck hb1 h11⟩) ((go_at_call 67; refine (HC.out _ (Below.refl _ _).drew).mono ?_; rintro e w1 ⟨rfl, hb1⟩))
      have HB := Lib.hid (below_step HW.out (below_step (Below.refl _ _).drew hb1))
      clear hb1 g0 g1 g2 g3 g4 g5 g6 g7 g8 g9 g10 g11 h0 h1 h2 h3 h4 h5 h6 h7 h8 h9 h10 h11
      go_wp2_with fail
      go_roundg (ks.length - (i + 1))
      case measure => omega
      case rel => exact ⟨i + 1, by omega, Nat.le_refl _, by go_num, ⟨HB.out⟩⟩
    · obtain rfl : i = ks.length := by omega
      go_wp2_with fail
      go_ret
      exact ⟨rfl, HW.out⟩
set_option maxHeartbeats 4000000 in
set_option maxRecDepth 100000 in
theorem eqHit_any (x : Ht) : EqHit x := by
  induction x using Ht.ind with
  | h x ih =>
    intro A3 Ac3 A4 Ac4 A9 Ac9 A10 Ac10 A11 Ac11 B3 Bc3 B4 Bc4 B9 Bc9 B10 Bc10 B11 Bc11 w hx hy
    obtain ⟨k1, k2, hb0⟩ := two_new (Below.refl ((w.alloc (.cells #[.int .i64 x.f0.f0, .string x.f0.f1, .int .i64 x.f0.f2, .slice A3 x.f0.f3.length Ac3, .slice A4 x.f0.f4.length Ac4, .int .i64 x.f1, .int .i64 x.f2.f0, .string x.f2.f1, .int .i64 x.f2.f2, .slice A9 x.f2.f3.length Ac9, .slice A10 x.f2.f4.length Ac10, .slice A11 x.f3.length Ac11] 80)).alloc (.cells #[.int .i64 x.f0.f0, .string x.f0.f1, .int .i64 x.f0.f2, .slice B3 x.f0.f3.length Bc3, .slice B4 x.f0.f4.length Bc4, .int .i64 x.f1, .int .i64 x.f2.f0, .string x.f2.f1, .int .i64 x.f2.f2, .slice B9 x.f2.f3.length Bc9, .slice B10 x.f2.f4.length Bc10, .slice B11 x.f3.length Bc11] 80)).heap.size ((w.alloc (.cells #[.int .i64 x.f0.f0, .string x.f0.f1, .int .i64 x.f0.f2, .slice A3 x.f0.f3.length Ac3, .slice A4 x.f0.f4.length Ac4, .int .i64 x.f1, .int .i64 x.f2.f0, .string x.f2.f1, .int .i64 x.f2.f2, .slice A9 x.f2.f3.length Ac9, .slice A10 x.f2.f4.length Ac10, .slice A11 x.f3.length Ac11] 80)).alloc (.cells #[.int .i64 x.f0.f0, .string x.f0.f1, .int .i64 x.f0.f2, .slice B3 x.f0.f3.length Bc3, .slice B4 x.f0.f4.length Bc4, .int .i64 x.f1, .int .i64 x.f2.f0, .string x.f2.f1, .int .i64 x.f2.f2, .slice B9 x.f2.f3.length Bc9, .slice B10 x.f2.f4.length Bc10, .slice B11 x.f3.length Bc11] 80)))
    have HB := Lib.hid hb0
    have HA := Lib.hid k1
    have HBx := Lib.hid k2
    clear k1 k2 hb0
    have hd1 : (x.f1 == x.f1) = true := by simp
    have hd2 : (x.f1 != x.f1) = false := by simp
    have HN := Lib.hid (fun W hb => eqForm_any x.f0 x.f0 A3 Ac3 A4 Ac4 B3 Bc3 B4 Bc4 W (hx.n.below hb) (hy.n.below hb))
    have HO := Lib.hid (fun W hb => eqForm_any x.f2 x.f2 A9 Ac9 A10 Ac10 B9 Bc9 B10 Bc10 W (hx.o.below hb) (hy.o.below hb))
    have HS := Lib.hid (fun W hb => eqHitS_of x.f3 ih A11 B11 Ac11 Bc11 W (Kd.C_below hx.gm hb) hx.lm (Kd.C_below hy.gm hb) hy.lm)
    clear hx hy ih
    obtain ⟨p0, p1, p2, p3, p4, p5, p6, p7, p8, p9, p10, p11⟩ := ht_cells HA.out
    obtain ⟨q0, q1, q2, q3, q4, q5, q6, q7, q8, q9, q10, q11⟩ := ht_cells HBx.out
    go_enter Try.func67, Try.ntmps67
    go_wp2_with fail
    refine (HN.out _ HB.out).mono ?_
    rintro e w1 ⟨rfl, b⟩
    rw [eqB_self]
    replace HA := Lib.hid (blk_below HA.out b)
    replace HBx := Lib.hid (blk_below HBx.out b)
    replace HB := Lib.hid (below_step HB.out b)
    clear b p0 p1 p2 p3 p4 p5 p6 p7 p8 p9 p10 p11 q0 q1 q2 q3 q4 q5 q6 q7 q8 q9 q10 q11
    obtain ⟨p0, p1, p2, p3, p4, p5, p6, p7, p8, p9, p10, p11⟩ := ht_cells HA.out
    obtain ⟨q0, q1, q2, q3, q4, q5, q6, q7, q8, q9, q10, q11⟩ := ht_cells HBx.out
    go_wp2_with fail
    refine (HO.out _ HB.out).mono ?_
    rintro e w2 ⟨rfl, b⟩
    rw [eqB_self]
    replace HA := Lib.hid (blk_below HA.out b)
    replace HBx := Lib.hid (blk_below HBx.out b)
    replace HB := Lib.hid (below_step HB.out b)
    clear b p0 p1 p2 p3 p4 p5 p6 p7 p8 p9 p10 p11 q0 q1 q2 q3 q4 q5 q6 q7 q8 q9 q10 q11
    obtain ⟨p0, p1, p2, p3, p4, p5, p6, p7, p8, p9, p10, p11⟩ := ht_cells HA.out
    obtain ⟨q0, q1, q2, q3, q4, q5, q6, q7, q8, q9, q10, q11⟩ := ht_cells HBx.out
    go_wp2_with fail
    refine (HS.out _ HB.out).mono ?_
    rintro e w3 ⟨rfl, b⟩
    replace HB := Lib.hid (below_step HB.out b)
    clear b p0 p1 p2 p3 p4 p5 p6 p7 p8 p9 p10 p11 q0 q1 q2 q3 q4 q5 q6 q7 q8 q9 q10 q11
    go_wp2_with fail
    go_ret
    exact ⟨rfl, HB.out⟩
theorem eqHitS_any (ks : List Ht) (A B : Option Addr) (c d : Nat) (w : World) (hr : kH.C w A ks.length ks) (hc : ks.length ≤ c) (hr2 : kH.C w B ks.length ks) (hc2 : ks.length ≤ d) :
    Calls Try.prog 32 #[.slice A ks.length c, .slice B ks.length d] w (Ret w (.bool true)) := eqHitS_of ks (fun k _ => eqHit_any k) A B c d w hr hc hr2 hc2
end Go.Proofs.Ytlklclebjeeaaaa
end
section
namespace Go.Proofs.Ytlklclebjeeaaaa
open Go.RowKit Go.Proofs.YtlklclebjeeaaaaW.PrintWords Go.Proofs.YtlklclebjeeaaaaW.PrintLast Go.Proofs.YtlklclebjeeaaaaW.PrintMore
set_option linter.unusedVariables false
set_option linter.unusedSimpArgs false

set_option maxHeartbeats 1000000 in
theorem l1Ints_any (xs ys : List Int) (A B : Option Addr) (c d : Nat) (w : World) (hr : kI.C w A xs.length xs) (hc : xs.length ≤ c) (hr2 : kI.C w B ys.length ys) (hc2 : ys.length ≤ d) :
    Calls Try.prog 81 #[.slice A xs.length c, .slice B ys.length d] w (Ret w (.bool (decide (xs = ys)))) := by
  have hmax := hr.2.1
  by_cases hl : xs.length = ys.length
  · have hl1 : ((xs.length : Int) == (ys.length : Int)) = true := by simp [hl]
    have hl2 : ((xs.length : Int) != (ys.length : Int)) = false := by simp [hl]
    have hl3 : (xs.length == ys.length) = true := by simp [hl]
    have hl4 : (xs.length != ys.length) = false := by simp [hl]
    have HL := Lib.hid hl
    clear hl
    go_enter Try.func81, Try.ntmps81
    go_wp2_with fail
    go_loopg [5] xs.length (fun kq v5 w' => ∃ i : Nat, i ≤ xs.length ∧ xs.length - i ≤ kq ∧ v5 = .int .i64 i ∧ Aside0 (∀ j (h : j < xs.length) (h2 : j < ys.length), j < i → xs[j] = ys[j]) ∧ Aside0 (Below w.heap.size w w'))
    case atStart => exact ⟨0, Nat.zero_le _, by omega, rfl, ⟨fun j _ _ h => absurd h (by omega)⟩, ⟨Below.refl _ _⟩⟩
    case round =>
      obtain ⟨i, hi, hg, rfl, HN, HW⟩ := hrel
      by_cases hlt : i < xs.length
      · have hlt2 : i < ys.length := by have := HL.out; omega
        obtain ⟨ad, e, hcell⟩ := int_at (Kd.C_below hr HW.out) i hlt
        subst e
        obtain ⟨ad2, e2, hcell2⟩ := int_at (Kd.C_below hr2 HW.out) i hlt2
        subst e2
        by_cases he : xs[i] = ys[i]
        · have hb1 : (xs[i] == ys[i]) = true := by simpa using he
          have hb2 : (xs[i] != ys[i]) = false := by simpa using he
          have HE := Lib.hid he
          clear he
          go_wp2_with fail
          go_quiet (fail)
          go_wp2_with fail
          go_roundg (xs.length - (i + 1))
          case measure => omega
          case rel =>
            refine ⟨i + 1, by omega, Nat.le_refl _, by go_num, ⟨fun j hj hj2 hji => ?_⟩, ⟨pw_below_drewN HW.out _⟩⟩
            rcases Nat.lt_or_ge j i with h | h
            · exact HN.out j hj hj2 h
            · obtain rfl : j = i := by omega
              exact HE.out
        · have hb1 : (xs[i] == ys[i]) = false := by simpa using he
          have hb2 : (xs[i] != ys[i]) = true := by simpa using he
          have HE := Lib.hid he
          clear he
          go_wp2_with fail
          go_quiet (fail)
          go_wp2_with fail
          go_ret
          refine ⟨ret_b (decide_eq_false (fun h => HE.out ?_)).symm, pw_below_drewN HW.out _⟩
          subst h
          rfl
      · obtain rfl : i = xs.length := by omega
        go_wp2_with fail
        go_ret
        refine ⟨ret_b (decide_eq_true (List.ext_getElem HL.out (fun j hj hj2 => HN.out j hj hj2 hj))).symm, HW.out⟩
  · have hl1 : ((xs.length : Int) == (ys.length : Int)) = false := by simp; omega
    have hl2 : ((xs.length : Int) != (ys.length : Int)) = true := by simp; omega
    have hl3 : (xs.length == ys.length) = false := by simp [hl]
    have hl4 : (xs.length != ys.length) = true := by simp [hl]
    have HL := Lib.hid hl
    clear hl
    go_enter Try.func81, Try.ntmps81
    go_wp2_with fail
    go_ret
    exact ⟨ret_b (decide_eq_false (fun h => HL.out (by rw [h]))).symm, Below.refl _ _⟩
set_option maxHeartbeats 1000000 in
theorem equalI_any (xs ys : List Int) (A B : Option Addr) (c d : Nat) (w : World) (hr : kI.C w A xs.length xs) (hc : xs.length ≤ c) (hr2 : kI.C w B ys.length ys) (hc2 : ys.length ≤ d) :
    Calls Try.prog 89 #[.slice A xs.length c, .slice B ys.length d] w (Ret w (.bool (decide (xs = ys)))) := by
  have hmax := hr.2.1
  by_cases hl : xs.length = ys.length
  · have hl1 : ((xs.length : Int) == (ys.length : Int)) = true := by simp [hl]
    have hl2 : ((xs.length : Int) != (ys.length : Int)) = false := by simp [hl]
    have hl3 : (xs.length == ys.length) = true := by simp [hl]
    have hl4 : (xs.length != ys.length) = false := by simp [hl]
    have HL := Lib.hid hl
    clear hl
    go_enter Try.func89, Try.ntmps89
    go_wp2_with fail
    go_loopg [5, 13] xs.length (fun kq v5 v13 w' => ∃ i : Nat, i ≤ xs.length ∧ xs.length - i ≤ kq ∧ v13 = .int .i64 i ∧ Aside0 (∀ j (h : j < xs.length) (h2 : j < ys.length), j < i → xs[j] = ys[j]) ∧ Aside0 (Below w.heap.size w w'))
    case atStart => exact ⟨0, Nat.zero_le _, by omega, rfl, ⟨fun j _ _ h => absurd h (by omega)⟩, ⟨Below.refl _ _⟩⟩
    case round =>
      obtain ⟨i, hi, hg, rfl, HN, HW⟩ := hrel
      by_cases hlt : i < xs.length
      · have hlt2 : i < ys.length := by have := HL.out; omega
        obtain ⟨ad, e, hcell⟩ := int_at (Kd.C_below hr HW.out) i hlt
        subst e
        obtain ⟨ad2, e2, hcell2⟩ := int_at (Kd.C_below hr2 HW.out) i hlt2
        subst e2
        by_cases he : xs[i] = ys[i]
        · have hb1 : (xs[i] == ys[i]) = true := by simpa using he
          have hb2 : (xs[i] != ys[i]) = false := by simpa using he
          have HE := Lib.hid he
          clear he
          go_wp2_with fail
          go_quiet (fail)
          go_wp2_with fail
          go_roundg (xs.length - (i + 1))
          case measure => omega
          case rel =>
            refine ⟨i + 1, by omega, Nat.le_refl _, by go_num, ⟨fun j hj hj2 hji => ?_⟩, ⟨pw_below_drewN HW.out _⟩⟩
            rcases Nat.lt_or_ge j i with h | h
            · exact HN.out j hj hj2 h
            · obtain rfl : j = i := by omega
              exact HE.out
        · have hb1 : (xs[i] == ys[i]) = false := by simpa using he
          have hb2 : (xs[i] != ys[i]) = true := by simpa using he
          have HE := Lib.hid he
          clear he
          go_wp2_with fail
          go_quiet (fail)
          go_wp2_with fail
          go_ret
          refine ⟨ret_b (decide_eq_false (fun h => HE.out ?_)).symm, pw_below_drewN HW.out _⟩
          subst h
          rfl
      · obtain rfl : i = xs.length := by omega
        go_wp2_with fail
        go_ret
        refine ⟨ret_b (decide_eq_true (List.ext_getElem HL.out (fun j hj hj2 => HN.out j hj hj2 hj))).symm, HW.out⟩
  · have hl1 : ((xs.length : Int) == (ys.length : Int)) = false := by simp; omega
    have hl2 : ((xs.length : Int) != (ys.length : Int)) = true := by simp; omega
    have hl3 : (xs.length == ys.length) = false := by simp [hl]
    have hl4 : (xs.length != ys.length) = true := by simp [hl]
    have HL := Lib.hid hl
    clear hl
    go_enter Try.func89, Try.ntmps89
    go_wp2_with fail
    go_ret
    exact ⟨ret_b (decide_eq_false (fun h => HL.out (by rw [h]))).symm, Below.refl _ _⟩
def SpecSame (x : Fm) : Prop := ∀ (y : Fm) (A3 : Option Addr) (c3 : Nat) (A4 : Option Addr) (c4 : Nat) (B3 : Option Addr) (d3 : Nat) (B4 : Option Addr) (d4 : Nat) (w : World), FmIn w x A3 c3 A4 c4 → FmIn w y B3 d3 B4 d4 →
    Calls Try.prog 63 #[.agg #[.int .i64 x.f0, .string x.f1, .int .i64 x.f2, .slice A3 x.f3.length c3, .slice A4 x.f4.length c4], .agg #[.int .i64 y.f0, .string y.f1, .int .i64 y.f2, .slice B3 y.f3.length d3, .slice B4 y.f4.length d4]] w (Ret w (.bool (eqB x y)))
set_option maxHeartbeats 4000000 in
set_option maxRecDepth 100000 in
theorem specSame_any (x : Fm) : SpecSame x := by
  induction x using Fm.ind with
  | h x ih =>
    intro y A3 c3 A4 c4 B3 d3 B4 d4 w hx hy
    have HX := Lib.hid (fun (h1 : x.f0 = y.f0) (h2 : x.f1 = y.f1) (h3 : x.f2 = y.f2) (h4 : x.f3 = y.f3) (h5 : x.f4 = y.f4) => Fm.ext' h1 h2 h3 h4 h5)
    have hb1 := below_new w (.cells #[.int .i64 x.f0, .string x.f1, .int .i64 x.f2, .slice A3 x.f3.length c3, .slice A4 x.f4.length c4] 34)
    have hb2 := below_step hb1 (below_new _ (.cells #[.int .i64 y.f0, .string y.f1, .int .i64 y.f2, .slice B3 y.f3.length d3, .slice B4 y.f4.length d4] 34))
    have HB := Lib.hid hb2
    by_cases e1 : x.f0 = y.f0
    · have t1 : (x.f0 == y.f0) = true := by simpa using e1
      have t1' : (x.f0 != y.f0) = false := by simpa using e1
      have E1 := Lib.hid e1
      clear e1
      by_cases e2 : x.f1 = y.f1
      · have t2 : (x.f1.toList == y.f1.toList) = true := by rw [e2]; simp
        have t2' : (x.f1.toList != y.f1.toList) = false := by rw [e2]; simp
        have E2 := Lib.hid e2
        clear e2
        by_cases e3 : x.f2 = y.f2
        · have t3 : (x.f2 == y.f2) = true := by simpa using e3
          have t3' : (x.f2 != y.f2) = false := by simpa using e3
          have E3 := Lib.hid e3
          clear e3
          have HC := Lib.hid (l1Ints_any x.f3 y.f3 A3 B3 c3 d3 _ (Kd.C_below hx.g3 hb2) hx.l3 (Kd.C_below hy.g3 hb2) hy.l3)
          have HK := Lib.hid (fun (k : Fm) (h : k ∈ x.f4) => ih k h)
          have HXY := Lib.hid (And.intro hx hy)
          have hmax := hx.g4.2.1
          clear ih hx hy hb1 hb2
          go_enter Try.func63, Try.ntmps63
          go_wp2_with fail
          refine HC.out.mono ?_
          rintro e w1 ⟨rfl, k1⟩
          have hz := blk_below (blk_below (blk_new w (.cells #[.int .i64 x.f0, .string x.f1, .int .i64 x.f2, .slice A3 x.f3.length c3, .slice A4 x.f4.length c4] 34)) (below_new _ _)) k1
          have hz2 := blk_below (blk_new (w.alloc (.cells #[.int .i64 x.f0, .string x.f1, .int .i64 x.f2, .slice A3 x.f3.length c3, .slice A4 x.f4.length c4] 34)) (.cells #[.int .i64 y.f0, .string y.f1, .int .i64 y.f2, .slice B3 y.f3.length d3, .slice B4 y.f4.length d4] 34)) k1
          rw [show (w.alloc (.cells #[.int .i64 x.f0, .string x.f1, .int .i64 x.f2, .slice A3 x.f3.length c3, .slice A4 x.f4.length c4] 34)).heap.size = w.heap.size + 1 from by simp] at hz2
          obtain ⟨_, _, _, _, q4⟩ := fm_cells hz
          obtain ⟨_, _, _, _, r4⟩ := fm_cells hz2
          have K1 := Lib.hid (below_step HB.out k1)
          clear hz hz2 k1
          by_cases e4 : x.f3 = y.f3
          · have E4 := Lib.hid e4
            rw [decide_eq_true e4]
            clear e4
            by_cases hl : x.f4.length = y.f4.length
            · have hl1 : ((x.f4.length : Int) == (y.f4.length : Int)) = true := by simp [hl]
              have hl2 : ((x.f4.length : Int) != (y.f4.length : Int)) = false := by simp [hl]
              have HL := Lib.hid hl
              have C1 := Lib.hid (Kd.C_below HXY.out.1.g4 K1.out)
              have C2 := Lib.hid (Kd.C_below HXY.out.2.g4 K1.out)
              clear hl
              go_wp2_with fail
              go_loopg [5] x.f4.length (fun kq v5 w' => ∃ i : Nat, i ≤ x.f4.length ∧ x.f4.length - i ≤ kq ∧ v5 = .int .i64 i ∧ Aside0 (∀ j (h : j < x.f4.length) (h2 : j < y.f4.length), j < i → x.f4[j] = y.f4[j]) ∧ Aside0 (Below w1.heap.size w1 w'))
              case atStart => exact ⟨0, Nat.zero_le _, by omega, rfl, ⟨fun j _ _ h => absurd h (by omega)⟩, ⟨Below.refl _ _⟩⟩
              case round =>
                obtain ⟨i, hi, hg, rfl, HN, HW⟩ := hrel
                have q6 := ck0 HW.out q4
                by_cases hlt : i < x.f4.length
                · have hlt2 : i < y.f4.length := by have := HL.out; omega
                  obtain ⟨ad, G3, m3, G4, m4, e, g0, g1, g2, g3, g4, hk⟩ := kid_at (Kd.C_below C1.out HW.out) i hlt
                  subst e
                  obtain ⟨ad2, E3, f3, E4, f4, e2, h0, h1, h2, h3, h4, hk2⟩ := kid_at (Kd.C_below C2.out HW.out) i hlt2
                  subst e2
                  have HC := Lib.hid (fun W (hb : Below wr.heap.size wr W) => HK.out x.f4[i] (List.getElem_mem hlt) y.f4[i] G3 m3 G4 m4 E3 f3 E4 f4 W (hk.below hb) (hk2.below hb))
                  clear hk hk2
                  have q5 := ck0 HW.out q4
                  have r5 := ck0 HW.out r4
                  have p1 : (0 : Int) ≤ (i : Int) := by omega
                  have p2 : (i : Int) < (x.f4.length : Int) := by omega
                  have p3 : (i : Int) < (y.f4.length : Int) := by omega
                  go_wp2_with fail
                  go_region_held3 (fun w' => w'.cell? ⟨w.heap.size, 4, none⟩ = some (.slice (some ad) x.f4.length c4) ∧ w'.cell? ⟨w.heap.size + 1, 4, none⟩ = some (.slice (some ad2) y.f4.length d4) ∧ w'.cell? (ad.add (i * 5)) = some (.int .i64 x.f4[i].f0) ∧ w'.cell? ⟨(ad.add (i * 5)).block, (ad.add (i * 5)).off + 1, none⟩ = some (.string x.f4[i].f1) ∧ w'.cell? ⟨(ad.add (i * 5)).block, (ad.add (i * 5)).off + 2, none⟩ = some (.int .i64 x.f4[i].f2) ∧ w'.cell? ⟨(ad.add (i * 5)).block, (ad.add (i * 5)).off + 3, none⟩ = some (.slice G3 x.f4[i].f3.length m3) ∧ w'.cell? ⟨(ad.add (i * 5)).block, (ad.add (i * 5)).off + 4, none⟩ = some (.slice G4 x.f4[i].f4.length m4) ∧ w'.cell? (ad2.add (i * 5)) = some (.int .i64 y.f4[i].f0) ∧ w'.cell? ⟨(ad2.add (i * 5)).block, (ad2.add (i * 5)).off + 1, none⟩ = some (.string y.f4[i].f1) ∧ w'.cell? ⟨(ad2.add (i * 5)).block, (ad2.add (i * 5)).off + 2, none⟩ = some (.int .i64 y.f4[i].f2) ∧ w'.cell? ⟨(ad2.add (i * 5)).block, (ad2.add (i * 5)).off + 3, none⟩ = some (.slice E3 y.f4[i].f3.length f3) ∧ w'.cell? ⟨(ad2.add (i * 5)).block, (ad2.add (i * 5)).off + 4, none⟩ = some (.slice E4 y.f4[i].f4.length f4)) (first | go_keep | exact ⟨ck hb1 q5, ck hb1 r5, ck hb1 g0, ck hb1 g1, ck hb1 g2, ck hb1 g3, ck hb1 g4, ck hb1 h0, ck hb1 h1, ck hb1 h2, ck hb1 h3, ck hb1 h4⟩) ((go_at_call 63; refine (HC.out _ (Below.refl _ _).drew).mono ?_; rintro e w2 ⟨rfl, hb1⟩))
                  cases he : eqB x.f4[i] y.f4[i] with
                  | true =>
                    have HE := Lib.hid (eqB_iff.1 he)
                    clear he
                    go_wp2_with fail
                    go_roundg (x.f4.length - (i + 1))
                    case measure => omega
                    case rel =>
                      refine ⟨i + 1, by omega, Nat.le_refl _, by go_num, ⟨fun j hj hj2 hji => ?_⟩, ⟨below_step HW.out (below_step (Below.refl _ _).drew hb1)⟩⟩
                      rcases Nat.lt_or_ge j i with h | h
                      · exact HN.out j hj hj2 h
                      · obtain rfl : j = i := by omega
                        exact HE.out
                  | false =>
                    have HE := Lib.hid he
                    clear he
                    go_wp2_with fail
                    go_ret
                    refine ⟨ret_b (eqB_no (fun h => ?_)), below_step K1.out (below_step HW.out (below_step (Below.refl _ _).drew hb1))⟩
                    have := HE.out
                    subst h
                    rw [eqB_self] at this
                    cases this
                · obtain rfl : i = x.f4.length := by omega
                  have q5 := ck0 HW.out q4
                  go_wp2_with fail
                  go_ret
                  exact ⟨ret_b (eqB_yes (HX.out E1.out E2.out E3.out E4.out (List.ext_getElem HL.out (fun j hj hj2 => HN.out j hj hj2 hj)))), below_step K1.out HW.out⟩
            · have hl1 : ((x.f4.length : Int) == (y.f4.length : Int)) = false := by rw [beq_eq_false_iff_ne]; omega
              have hl2 : ((x.f4.length : Int) != (y.f4.length : Int)) = true := by simp; omega
              have HL := Lib.hid hl
              clear hl
              go_wp2_with fail
              go_ret
              exact ⟨ret_b (eqB_no (fun h => HL.out (by rw [h]))), K1.out⟩
          · have E4 := Lib.hid e4
            rw [decide_eq_false e4]
            clear e4
            go_wp2_with fail
            go_ret
            exact ⟨ret_b (eqB_no (fun h => E4.out (by rw [h]))), K1.out⟩
        · have t3 : (x.f2 == y.f2) = false := by simpa using e3
          have t3' : (x.f2 != y.f2) = true := by simpa using e3
          have E3 := Lib.hid e3
          clear e3 ih hx hy hb1 hb2
          go_enter Try.func63, Try.ntmps63
          go_wp2_with fail
          go_ret
          exact ⟨ret_b (eqB_no (fun h => E3.out (by rw [h]))), HB.out⟩
      · have t2 : (x.f1.toList == y.f1.toList) = false := by rw [beq_eq_false_iff_ne]; exact fun h => e2 (toList_inj h)
        have t2' : (x.f1.toList != y.f1.toList) = true := by rw [bne_iff_ne]; exact fun h => e2 (toList_inj h)
        have E2 := Lib.hid e2
        clear e2 ih hx hy hb1 hb2
        go_enter Try.func63, Try.ntmps63
        go_wp2_with fail
        go_ret
        exact ⟨ret_b (eqB_no (fun h => E2.out (by rw [h]))), HB.out⟩
    · have t1 : (x.f0 == y.f0) = false := by simpa using e1
      have t1' : (x.f0 != y.f0) = true := by simpa using e1
      have E1 := Lib.hid e1
      clear e1 ih hx hy hb1 hb2
      go_enter Try.func63, Try.ntmps63
      go_wp2_with fail
      go_ret
      exact ⟨ret_b (eqB_no (fun h => E1.out (by rw [h]))), HB.out⟩
def ImplSame (x : Fm) : Prop := ∀ (y : Fm) (A3 : Option Addr) (c3 : Nat) (A4 : Option Addr) (c4 : Nat) (B3 : Option Addr) (d3 : Nat) (B4 : Option Addr) (d4 : Nat) (w : World), FmIn w x A3 c3 A4 c4 → FmIn w y B3 d3 B4 d4 →
    Calls Try.prog 94 #[.agg #[.int .i64 x.f0, .string x.f1, .int .i64 x.f2, .slice A3 x.f3.length c3, .slice A4 x.f4.length c4], .agg #[.int .i64 y.f0, .string y.f1, .int .i64 y.f2, .slice B3 y.f3.length d3, .slice B4 y.f4.length d4]] w (Ret w (.bool (eqB x y)))
set_option maxHeartbeats 4000000 in
set_option maxRecDepth 100000 in
theorem equalFunc_of (ks ls : List Fm) (hks : ∀ k, k ∈ ks → ImplSame k) (A B : Option Addr) (c d : Nat) (w : World) (hr : kF.C w A ks.length ks) (hc : ks.length ≤ c) (hr2 : kF.C w B ls.length ls) (hc2 : ls.length ≤ d) :
    Calls Try.prog 118 #[.slice A ks.length c, .slice B ls.length d, .func (.func 94) #[] #[]] w (Ret w (.bool (eqB ks ls))) := by
  have eg : ∀ args w, (callFunc 94 args).run Try.prog w = .ok (.enter 94 args) w := enters_of Try.func94 (by kernel_rfl) rfl
  have hmax := hr.2.1
  by_cases hl : ks.length = ls.length
  · have hl1 : ((ks.length : Int) == (ls.length : Int)) = true := by simp [hl]
    have hl2 : ((ks.length : Int) != (ls.length : Int)) = false := by simp [hl]
    have HL := Lib.hid hl
    have HK := Lib.hid hks
    clear hl hks
    go_enter Try.func118, Try.ntmps118
    go_wp2_with fail
    go_loopg [7, 8, 9, 17] ks.length (fun kq v7 v8 v9 v17 w' => ∃ i : Nat, i ≤ ks.length ∧ ks.length - i ≤ kq ∧ v17 = .int .i64 i ∧ Aside0 (∀ j (h : j < ks.length) (h2 : j < ls.length), j < i → ks[j] = ls[j]) ∧ Aside0 (Below w.heap.size w w'))
    case atStart => exact ⟨0, Nat.zero_le _, by omega, rfl, ⟨fun j _ _ h => absurd h (by omega)⟩, ⟨Below.refl _ _⟩⟩
    case round =>
      obtain ⟨i, hi, hg, rfl, HN, HW⟩ := hrel
      by_cases hlt : i < ks.length
      · have hlt2 : i < ls.length := by have := HL.out; omega
        obtain ⟨ad, G3, m3, G4, m4, e, g0, g1, g2, g3, g4, hk⟩ := kid_at (Kd.C_below hr HW.out) i hlt
        subst e
        obtain ⟨ad2, E3, f3, E4, f4, e2, h0, h1, h2, h3, h4, hk2⟩ := kid_at (Kd.C_below hr2 HW.out) i hlt2
        subst e2
        have HC := Lib.hid (fun W (hb : Below wr.heap.size wr W) => HK.out ks[i] (List.getElem_mem hlt) ls[i] G3 m3 G4 m4 E3 f3 E4 f4 W (hk.below hb) (hk2.below hb))
        clear hk hk2
        have hn := below_new wr (.cells #[.int .i64 ks[i].f0, .string ks[i].f1, .int .i64 ks[i].f2, .slice G3 ks[i].f3.length m3, .slice G4 ks[i].f4.length m4] 34)
        have k0 := ck0 hn h0
        have k1 := ck0 hn h1
        have k2 := ck0 hn h2
        have k3 := ck0 hn h3
        have k4 := ck0 hn h4
        clear hn
        go_wp2_with fail
        refine (HC.out _ (below_step (below_new _ _) (below_new _ _))).mono ?_
        rintro e w1 ⟨rfl, hb1⟩
        obtain ⟨_, _, b1⟩ := two_new hb1
        have B1 := Lib.hid b1
        clear hb1 b1
        cases he : eqB ks[i] ls[i] with
        | true =>
          have HE := Lib.hid (eqB_iff.1 he)
          clear he
          go_wp2_with fail
          go_roundg (ks.length - (i + 1))
          case measure => omega
          case rel =>
            refine ⟨i + 1, by omega, Nat.le_refl _, by go_num, ⟨fun j hj hj2 hji => ?_⟩, ⟨below_step HW.out B1.out⟩⟩
            rcases Nat.lt_or_ge j i with h | h
            · exact HN.out j hj hj2 h
            · obtain rfl : j = i := by omega
              exact HE.out
        | false =>
          have HE := Lib.hid he
          clear he
          go_wp2_with fail
          go_ret
          refine ⟨ret_b (eqB_no (fun h => ?_)), below_step HW.out B1.out⟩
          have := HE.out
          subst h
          rw [eqB_self] at this
          cases this
      · obtain rfl : i = ks.length := by omega
        go_wp2_with fail
        go_ret
        exact ⟨ret_b (eqB_yes (List.ext_getElem HL.out (fun j hj hj2 => HN.out j hj hj2 hj))), HW.out⟩
  · have hl2 : ((ks.length : Int) != (ls.length : Int)) = true := by simp; omega
    have hl1 : ((ks.length : Int) == (ls.length : Int)) = false := by rw [beq_eq_false_iff_ne]; omega
    have HL := Lib.hid hl
    clear hl
    go_enter Try.func118, Try.ntmps118
    go_wp2_with fail
    go_ret
    exact ⟨ret_b (eqB_no (fun h => HL.out (by rw [h]))), Below.refl _ _⟩
set_option maxHeartbeats 4000000 in
theorem implSame_any (x : Fm) : ImplSame x := by
  induction x using Fm.ind with
  | h x ih =>
    intro y A3 c3 A4 c4 B3 d3 B4 d4 w hx hy
    have HX := Lib.hid (fun (h1 : x.f0 = y.f0) (h2 : x.f1 = y.f1) (h3 : x.f2 = y.f2) (h4 : x.f3 = y.f3) (h5 : x.f4 = y.f4) => Fm.ext' h1 h2 h3 h4 h5)
    have hb1 := below_new w (.cells #[.int .i64 x.f0, .string x.f1, .int .i64 x.f2, .slice A3 x.f3.length c3, .slice A4 x.f4.length c4] 34)
    have hb2 := below_step hb1 (below_new _ (.cells #[.int .i64 y.f0, .string y.f1, .int .i64 y.f2, .slice B3 y.f3.length d3, .slice B4 y.f4.length d4] 34))
    have HB := Lib.hid hb2
    by_cases e1 : x.f0 = y.f0
    · have t1 : (x.f0 == y.f0) = true := by simpa using e1
      have t1' : (x.f0 != y.f0) = false := by simpa using e1
      have E1 := Lib.hid e1
      clear e1
      by_cases e2 : x.f1 = y.f1
      · have t2 : (x.f1.toList == y.f1.toList) = true := by rw [e2]; simp
        have t2' : (x.f1.toList != y.f1.toList) = false := by rw [e2]; simp
        have E2 := Lib.hid e2
        clear e2
        by_cases e3 : x.f2 = y.f2
        · have t3 : (x.f2 == y.f2) = true := by simpa using e3
          have t3' : (x.f2 != y.f2) = false := by simpa using e3
          have E3 := Lib.hid e3
          clear e3
          have HC := Lib.hid (equalI_any x.f3 y.f3 A3 B3 c3 d3 _ (Kd.C_below hx.g3 hb2) hx.l3 (Kd.C_below hy.g3 hb2) hy.l3)
          have HK := Lib.hid (fun W hb => equalFunc_of x.f4 y.f4 ih A4 B4 c4 d4 W (Kd.C_below hx.g4 hb) hx.l4 (Kd.C_below hy.g4 hb) hy.l4)
          clear ih hx hy hb1 hb2
          go_enter Try.func94, Try.ntmps94
          go_wp2_with fail
          refine HC.out.mono ?_
          rintro e w1 ⟨rfl, k1⟩
          have hz := blk_below (blk_below (blk_new w (.cells #[.int .i64 x.f0, .string x.f1, .int .i64 x.f2, .slice A3 x.f3.length c3, .slice A4 x.f4.length c4] 34)) (below_new _ _)) k1
          have hz2 := blk_below (blk_new (w.alloc (.cells #[.int .i64 x.f0, .string x.f1, .int .i64 x.f2, .slice A3 x.f3.length c3, .slice A4 x.f4.length c4] 34)) (.cells #[.int .i64 y.f0, .string y.f1, .int .i64 y.f2, .slice B3 y.f3.length d3, .slice B4 y.f4.length d4] 34)) k1
          rw [show (w.alloc (.cells #[.int .i64 x.f0, .string x.f1, .int .i64 x.f2, .slice A3 x.f3.length c3, .slice A4 x.f4.length c4] 34)).heap.size = w.heap.size + 1 from by simp] at hz2
          obtain ⟨_, _, _, _, q4⟩ := fm_cells hz
          obtain ⟨_, _, _, _, r4⟩ := fm_cells hz2
          have K1 := Lib.hid (below_step HB.out k1)
          clear hz hz2 k1
          by_cases e4 : x.f3 = y.f3
          · have E4 := Lib.hid e4
            rw [decide_eq_true e4]
            clear e4
            go_wp2_with fail
            refine (HK.out _ K1.out).mono ?_
            rintro e w2 ⟨rfl, k2⟩
            cases e5 : eqB x.f4 y.f4 with
            | true =>
              have E5 := Lib.hid (eqB_iff.1 e5)
              clear e5
              go_wp2_with fail
              go_ret
              exact ⟨ret_b (eqB_yes (HX.out E1.out E2.out E3.out E4.out E5.out)), below_step K1.out k2⟩
            | false =>
              have E5 := Lib.hid e5
              clear e5
              go_wp2_with fail
              go_ret
              refine ⟨ret_b (eqB_no (fun h => ?_)), below_step K1.out k2⟩
              have := E5.out
              rw [h, eqB_self] at this
              cases this
          · have E4 := Lib.hid e4
            rw [decide_eq_false e4]
            clear e4
            go_wp2_with fail
            go_ret
            exact ⟨ret_b (eqB_no (fun h => E4.out (by rw [h]))), K1.out⟩
        · have t3 : (x.f2 == y.f2) = false := by simpa using e3
          have t3' : (x.f2 != y.f2) = true := by simpa using e3
          have E3 := Lib.hid e3
          clear e3 ih hx hy hb1 hb2
          go_enter Try.func94, Try.ntmps94
          go_wp2_with fail
          go_ret
          exact ⟨ret_b (eqB_no (fun h => E3.out (by rw [h]))), HB.out⟩
      · have t2 : (x.f1.toList == y.f1.toList) = false := by rw [beq_eq_false_iff_ne]; exact fun h => e2 (toList_inj h)
        have t2' : (x.f1.toList != y.f1.toList) = true := by rw [bne_iff_ne]; exact fun h => e2 (toList_inj h)
        have E2 := Lib.hid e2
        clear e2 ih hx hy hb1 hb2
        go_enter Try.func94, Try.ntmps94
        go_wp2_with fail
        go_ret
        exact ⟨ret_b (eqB_no (fun h => E2.out (by rw [h]))), HB.out⟩
    · have t1 : (x.f0 == y.f0) = false := by simpa using e1
      have t1' : (x.f0 != y.f0) = true := by simpa using e1
      have E1 := Lib.hid e1
      clear e1 ih hx hy hb1 hb2
      go_enter Try.func94, Try.ntmps94
      go_wp2_with fail
      go_ret
      exact ⟨ret_b (eqB_no (fun h => E1.out (by rw [h]))), HB.out⟩
end Go.Proofs.Ytlklclebjeeaaaa
end
section
namespace Go.Proofs.Ytlklclebjeeaaaa
open Go.RowKit Go.Proofs.YtlklclebjeeaaaaW.PrintWords Go.Proofs.YtlklclebjeeaaaaW.PrintLast Go.Proofs.YtlklclebjeeaaaaW.PrintMore
set_option linter.unusedVariables false
set_option linter.unusedSimpArgs false
theorem Ht.ext' {x y : Ht} (h1 : x.f0 = y.f0) (h2 : x.f1 = y.f1) (h3 : x.f2 = y.f2) (h4 : x.f3 = y.f3) : x = y := by
  cases x; cases y; simp only at h1 h2 h3 h4; subst h1; subst h2; subst h3; subst h4; rfl
def HitSame (x : Ht) : Prop := ∀ (y : Ht) (A3 : Option Addr) (Ac3 : Nat) (A4 : Option Addr) (Ac4 : Nat) (A9 : Option Addr) (Ac9 : Nat) (A10 : Option Addr) (Ac10 : Nat) (A11 : Option Addr) (Ac11 : Nat) (B3 : Option Addr) (Bc3 : Nat) (B4 : Option Addr) (Bc4 : Nat) (B9 : Option Addr) (Bc9 : Nat) (B10 : Option Addr) (Bc10 : Nat) (B11 : Option Addr) (Bc11 : Nat) (w : World), HtIn w x A3 Ac3 A4 Ac4 A9 Ac9 A10 Ac10 A11 Ac11 → HtIn w y B3 Bc3 B4 Bc4 B9 Bc9 B10 Bc10 B11 Bc11 →
    Calls Try.prog 66 #[.agg #[.int .i64 x.f0.f0, .string x.f0.f1, .int .i64 x.f0.f2, .slice A3 x.f0.f3.length Ac3, .slice A4 x.f0.f4.length Ac4, .int .i64 x.f1, .int .i64 x.f2.f0, .string x.f2.f1, .int .i64 x.f2.f2, .slice A9 x.f2.f3.length Ac9, .slice A10 x.f2.f4.length Ac10, .slice A11 x.f3.length Ac11], .agg #[.int .i64 y.f0.f0, .string y.f0.f1, .int .i64 y.f0.f2, .slice B3 y.f0.f3.length Bc3, .slice B4 y.f0.f4.length Bc4, .int .i64 y.f1, .int .i64 y.f2.f0, .string y.f2.f1, .int .i64 y.f2.f2, .slice B9 y.f2.f3.length Bc9, .slice B10 y.f2.f4.length Bc10, .slice B11 y.f3.length Bc11]] w (Ret w (.bool (eqB x y)))
end Go.Proofs.Ytlklclebjeeaaaa
end
section
namespace Go.Proofs.Ytlklclebjeeaaaa
open Go.RowKit Go.Proofs.YtlklclebjeeaaaaW.PrintWords Go.Proofs.YtlklclebjeeaaaaW.PrintLast Go.Proofs.YtlklclebjeeaaaaW.PrintMore
set_option linter.unusedVariables false
set_option linter.unusedSimpArgs false
noncomputable def pB (p : Prop) : Bool := @decide p (Classical.propDecidable _)
theorem pB_iff {p : Prop} : pB p = true ↔ p := by unfold pB; exact @decide_eq_true_iff _ (Classical.propDecidable _)
theorem pB_yes {p : Prop} (h : p) : true = pB p := (pB_iff.2 h).symm
theorem pB_no {p : Prop} (h : ¬ p) : false = pB p := by
  cases e : pB p with
  | true => exact absurd (pB_iff.1 e) h
  | false => rfl
theorem pB_of {b : Bool} {p : Prop} (h : b = true ↔ p) : b = pB p := by
  cases b with
  | true => exact pB_yes (h.1 rfl)
  | false => exact pB_no (fun hp => by have := h.2 hp; cases this)
def ScAt (xs : List Int) (i : Nat) : Prop := ∀ h : i < xs.length, 1 ≤ xs[i] ∧ xs[i] ≤ 99 ∧ ∀ (j : Nat) (hj : j < xs.length), j + 1 = i → xs[j] < xs[i]
def ScOk (xs : List Int) : Prop := xs.length ≤ 24 ∧ ∀ i, ScAt xs i
set_option maxHeartbeats 2000000 in
theorem l1Scopes_any (xs : List Int) (A : Option Addr) (c : Nat) (w : World) (hr : kI.C w A xs.length xs) (hc : xs.length ≤ c) :
    Calls Try.prog 80 #[.slice A xs.length c] w (Ret w (.bool (pB (ScOk xs)))) := by
  have hmax := hr.2.1
  go_enter Try.func80, Try.ntmps80
  go_wp2_with fail
  go_loopg [3] xs.length (fun kq v3 w' => ∃ i : Nat, i ≤ xs.length ∧ xs.length - i ≤ kq ∧ v3 = .int .i64 i ∧ Aside0 (i ≤ 25) ∧ Aside0 (∀ j, j < i → ScAt xs j) ∧ Aside0 (Below w.heap.size w w'))
  case atStart => exact ⟨0, Nat.zero_le _, by omega, rfl, ⟨by omega⟩, ⟨fun j h => absurd h (by omega)⟩, ⟨Below.refl _ _⟩⟩
  case round =>
    obtain ⟨i, hi, hg, rfl, H25, HN, HW⟩ := hrel
    by_cases hlt : i < xs.length
    · have t1 : decide ((i : Int) < (xs.length : Int)) = true := decide_eq_true (by omega)
      by_cases h24 : i ≤ 24
      · have t2 : decide ((i : Int) ≤ 24) = true := decide_eq_true (by omega)
        obtain ⟨ad, e, hcell⟩ := int_at (Kd.C_below hr HW.out) i hlt
        subst e
        have p1 : (0 : Int) ≤ (i : Int) := by omega
        have p2 : (i : Int) < (xs.length : Int) := by omega
        by_cases ha : xs[i] < 1
        · have a1 : decide (xs[i] < 1) = true := decide_eq_true ha
          have HA := Lib.hid ha
          clear ha
          go_wp2_with fail
          go_quiet (fail)
          go_wp2_with fail
          go_ret
          refine ⟨ret_b (pB_no (fun h => ?_)), pw_below_drewN HW.out _⟩
          have := (h.2 i hlt).1
          have := HA.out
          omega
        · have a1 : decide (xs[i] < 1) = false := decide_eq_false ha
          have HA := Lib.hid ha
          clear ha
          by_cases hb : xs[i] > 99
          · have a2 : decide (xs[i] > 99) = true := decide_eq_true hb
            have a3 : decide (99 < xs[i]) = true := decide_eq_true hb
            have HB := Lib.hid hb
            clear hb
            go_wp2_with fail
            go_quiet (fail)
            go_wp2_with fail
            go_ret
            refine ⟨ret_b (pB_no (fun h => ?_)), pw_below_drewN HW.out _⟩
            have := (h.2 i hlt).2.1
            have := HB.out
            omega
          · have a2 : decide (xs[i] > 99) = false := decide_eq_false hb
            have a3 : decide (99 < xs[i]) = false := decide_eq_false hb
            have HB := Lib.hid hb
            clear hb
            by_cases hz : i = 0
            · have z1 : decide ((i : Int) > 0) = false := decide_eq_false (by omega)
              have z2 : decide ((0 : Int) < (i : Int)) = false := decide_eq_false (by omega)
              have z3 : decide (0 < i) = false := decide_eq_false (by omega)
              have HZ := Lib.hid hz
              clear hz
              go_wp2_with fail
              go_quiet (fail)
              go_wp2_with fail
              go_roundg (xs.length - (i + 1))
              case measure => omega
              case rel =>
                refine ⟨i + 1, by omega, Nat.le_refl _, by go_num, ⟨by omega⟩, ⟨fun j hj => ?_⟩, ⟨pw_below_drewN HW.out _⟩⟩
                have h1 := HA.out
                have h2 := HB.out
                have h3 := HZ.out
                obtain rfl : j = i := by omega
                exact fun _ => ⟨by omega, by omega, fun j hj he => absurd he (by omega)⟩
            · obtain ⟨j, hji⟩ : ∃ j, i = j + 1 := ⟨i - 1, by omega⟩
              have hj : j < xs.length := by omega
              obtain ⟨ad3, e3, hcell3⟩ := int_at (Kd.C_below hr HW.out) j hj
              obtain rfl : ad = ad3 := by cases e3; rfl
              have z1 : decide ((i : Int) > 0) = true := decide_eq_true (by omega)
              have z2 : decide ((0 : Int) < (i : Int)) = true := decide_eq_true (by omega)
              have z3 : decide (0 < i) = true := decide_eq_true (by omega)
              have u1 : IntKind.i64.wrap ((i : Int) - 1) = (j : Int) := by rw [show ((i : Int) - 1) = (j : Int) from by omega]; exact IntWalk.i64_in _ (by omega)
              have u2 : (0 : Int) ≤ (j : Int) := by omega
              have u3 : (j : Int) < (xs.length : Int) := by omega
              have HJ := Lib.hid hji
              by_cases hle : xs[i] ≤ xs[j]
              · have c1 : decide (xs[i] ≤ xs[j]) = true := decide_eq_true hle
                have HL := Lib.hid hle
                clear hle hz hji
                go_wp2_with fail
                go_quiet (fail)
                go_wp2_with fail
                go_ret
                refine ⟨ret_b (pB_no (fun h => ?_)), pw_below_drewN HW.out _⟩
                have := (h.2 i hlt).2.2 j hj HJ.out.symm
                have := HL.out
                omega
              · have c1 : decide (xs[i] ≤ xs[j]) = false := decide_eq_false hle
                have HL := Lib.hid hle
                clear hle hz hji
                go_wp2_with fail
                go_quiet (fail)
                go_wp2_with fail
                go_roundg (xs.length - (i + 1))
                case measure => omega
                case rel =>
                  refine ⟨i + 1, by omega, Nat.le_refl _, by go_num, ⟨by omega⟩, ⟨fun q hq => ?_⟩, ⟨pw_below_drewN HW.out _⟩⟩
                  rcases Nat.lt_or_ge q i with h | h
                  · exact HN.out q h
                  · obtain rfl : q = i := by omega
                    have h1 := HA.out
                    have h2 := HB.out
                    have h3 := HL.out
                    have h4 := HJ.out
                    refine fun _ => ⟨by omega, by omega, fun p hp he => ?_⟩
                    obtain rfl : p = j := by omega
                    omega
      · have t2 : decide ((i : Int) ≤ 24) = false := decide_eq_false (by omega)
        have t3 : decide ((xs.length : Int) ≤ 24) = false := decide_eq_false (by omega)
        go_wp2_with fail
        go_ret
        refine ⟨ret_b (pB_no (fun h => ?_)), HW.out⟩
        have := h.1
        omega
    · obtain rfl : i = xs.length := by omega
      have t1 : decide ((xs.length : Int) < (xs.length : Int)) = false := decide_eq_false (by omega)
      by_cases h24 : xs.length ≤ 24
      · have t3 : decide ((xs.length : Int) ≤ 24) = true := decide_eq_true (by omega)
        go_wp2_with fail
        go_ret
        exact ⟨ret_b (pB_yes ⟨h24, fun i h => HN.out i h h⟩), HW.out⟩
      · have t3 : decide ((xs.length : Int) ≤ 24) = false := decide_eq_false (by omega)
        go_wp2_with fail
        go_ret
        exact ⟨ret_b (pB_no (fun h => h24 h.1)), HW.out⟩
set_option maxHeartbeats 2000000 in
theorem scopesOk_any (xs : List Int) (A : Option Addr) (c : Nat) (w : World) (hr : kI.C w A xs.length xs) (hc : xs.length ≤ c) :
    Calls Try.prog 85 #[.slice A xs.length c] w (Ret w (.bool (pB (ScOk xs)))) := by
  have hmax := hr.2.1
  go_enter Try.func85, Try.ntmps85
  go_wp2_with fail
  go_loopg [3, 4, 7] xs.length (fun kq v3 v4 v7 w' => ∃ i : Nat, i ≤ xs.length ∧ xs.length - i ≤ kq ∧ v7 = .int .i64 i ∧ Aside0 (∀ j, j < i → ScAt xs j) ∧ Aside0 (Below w.heap.size w w'))
  case atStart => exact ⟨0, Nat.zero_le _, by omega, rfl, ⟨fun j h => absurd h (by omega)⟩, ⟨Below.refl _ _⟩⟩
  case round =>
    obtain ⟨i, hi, hg, rfl, HN, HW⟩ := hrel
    by_cases hlt : i < xs.length
    · obtain ⟨ad, e, hcell⟩ := int_at (Kd.C_below hr HW.out) i hlt
      subst e
      have HC := Lib.hid (within_any xs[i] 1 99 wr)
      go_wp2_with fail
      refine HC.out.mono ?_
      rintro e w1 ⟨rfl, hb1⟩
      have hW1 := below_step HW.out hb1
      by_cases ha : 1 ≤ xs[i] ∧ xs[i] ≤ 99
      · rw [decide_eq_true ha]
        have HA := Lib.hid ha
        clear ha
        by_cases hz : i = 0
        · have z1 : decide ((i : Int) > 0) = false := decide_eq_false (by omega)
          have z2 : decide ((0 : Int) < (i : Int)) = false := decide_eq_false (by omega)
          have z3 : decide (0 < i) = false := decide_eq_false (by omega)
          have HZ := Lib.hid hz
          have HW1 := Lib.hid hW1
          clear hz hW1 hb1
          go_wp2_with fail
          go_roundg (xs.length - (i + 1))
          case measure => omega
          case rel =>
            refine ⟨i + 1, by omega, Nat.le_refl _, by go_num, ⟨fun q hq => ?_⟩, ⟨HW1.out⟩⟩
            have h1 := HA.out
            have h3 := HZ.out
            obtain rfl : q = i := by omega
            exact fun _ => ⟨h1.1, h1.2, fun j hj he => absurd he (by omega)⟩
        · obtain ⟨j, hji⟩ : ∃ j, i = j + 1 := ⟨i - 1, by omega⟩
          have hj : j < xs.length := by omega
          obtain ⟨ad3, e3, hcell3⟩ := int_at (Kd.C_below hr hW1) j hj
          obtain rfl : ad = ad3 := by cases e3; rfl
          have z1 : decide ((i : Int) > 0) = true := decide_eq_true (by omega)
          have z2 : decide ((0 : Int) < (i : Int)) = true := decide_eq_true (by omega)
          have z3 : decide (0 < i) = true := decide_eq_true (by omega)
          have u1 : IntKind.i64.wrap ((i : Int) - 1) = (j : Int) := by rw [show ((i : Int) - 1) = (j : Int) from by omega]; exact IntWalk.i64_in _ (by omega)
          have u2 : (0 : Int) ≤ (j : Int) := by omega
          have u3 : (j : Int) < (xs.length : Int) := by omega
          have u4 : (i : Int) - 1 = (j : Int) := by omega
          have HJ := Lib.hid hji
          have HW1 := Lib.hid hW1
          by_cases hle : xs[i] ≤ xs[j]
          · have c1 : decide (xs[j] ≥ xs[i]) = true := decide_eq_true hle
            have c2 : decide (xs[i] ≤ xs[j]) = true := decide_eq_true hle
            have HL := Lib.hid hle
            clear hle hz hji hW1 hb1
            go_wp2_with fail
            go_ret
            refine ⟨ret_b (pB_no (fun h => ?_)), HW1.out⟩
            have := (h.2 i hlt).2.2 j hj HJ.out.symm
            have := HL.out
            omega
          · have c1 : decide (xs[j] ≥ xs[i]) = false := decide_eq_false hle
            have c2 : decide (xs[i] ≤ xs[j]) = false := decide_eq_false hle
            have HL := Lib.hid hle
            clear hle hz hji hW1 hb1
            go_wp2_with fail
            go_roundg (xs.length - (i + 1))
            case measure => omega
            case rel =>
              refine ⟨i + 1, by omega, Nat.le_refl _, by go_num, ⟨fun q hq => ?_⟩, ⟨HW1.out⟩⟩
              rcases Nat.lt_or_ge q i with h | h
              · exact HN.out q h
              · obtain rfl : q = i := by omega
                have h1 := HA.out
                have h3 := HL.out
                have h4 := HJ.out
                refine fun _ => ⟨h1.1, h1.2, fun p hp he => ?_⟩
                obtain rfl : p = j := by omega
                omega
      · rw [decide_eq_false ha]
        have HA := Lib.hid ha
        have HW1 := Lib.hid hW1
        clear ha hW1 hb1
        go_wp2_with fail
        go_ret
        exact ⟨ret_b (pB_no (fun h => HA.out ⟨(h.2 i hlt).1, (h.2 i hlt).2.1⟩)), HW1.out⟩
    · obtain rfl : i = xs.length := by omega
      by_cases h24 : xs.length ≤ 24
      · have t3 : decide ((xs.length : Int) ≤ 24) = true := decide_eq_true (by omega)
        go_wp2_with fail
        go_ret
        exact ⟨ret_b (pB_yes ⟨h24, fun i h => HN.out i h h⟩), HW.out⟩
      · have t3 : decide ((xs.length : Int) ≤ 24) = false := decide_eq_false (by omega)
        go_wp2_with fail
        go_ret
        exact ⟨ret_b (pB_no (fun h => h24 h.1)), HW.out⟩
end Go.Proofs.Ytlklclebjeeaaaa
end
section
namespace Go.Proofs.Ytlklclebjeeaaaa
open Go.RowKit Go.Proofs.YtlklclebjeeaaaaW.PrintWords Go.Proofs.YtlklclebjeeaaaaW.PrintLast Go.Proofs.YtlklclebjeeaaaaW.PrintMore
set_option linter.unusedVariables false
set_option linter.unusedSimpArgs false
set_option maxRecDepth 100000

def letterB (c : Int) : Bool := (decide (97 ≤ c) && decide (c ≤ 122)) || c == 42 || c == 63 || c == 61 || c == 43 || c == 60
def digitB (c : Int) : Bool := (decide (48 ≤ c) && decide (c ≤ 57)) || c == 45
theorem l1Letter_any (c : Int) (first : Bool) (w : World) (h0 : 0 ≤ c) (h1 : c < 256) : Calls Try.prog 110 #[.int .u8 c, .bool first] w (Ret w (.bool (letterB c || (!first && digitB c)))) := by
  go_enter Try.func110, Try.ntmps110
  go_wp2
  all_goals
    go_ret
    refine ⟨ret_b ?_, Below.refl _ _⟩
    first
    | rfl
    | (rw [Bool.eq_iff_iff]; simp_all [letterB, digitB]; done)
    | (rw [Bool.eq_iff_iff]; simp_all [letterB, digitB]; omega)
    | (cases first <;> rw [Bool.eq_iff_iff] <;> simp_all [letterB, digitB] <;> omega)
/-- What a valid name is. -/
def NmOk (s : ByteArray) : Prop := s.toList = [46, 46, 46] ∨ s.toList = [95] ∨ (1 ≤ s.size ∧ s.size ≤ 12 ∧ ∀ i (h : i < s.size), (letterB s[i].toNat || (!((i : Int) == 0) && digitB s[i].toNat)) = true)
noncomputable def nmB (s : ByteArray) : Bool := @decide (NmOk s) (Classical.propDecidable _)
theorem nmB_iff (s : ByteArray) : nmB s = true ↔ NmOk s := by unfold nmB; exact @decide_eq_true_iff _ (Classical.propDecidable _)
theorem nmB_t {s : ByteArray} (h : NmOk s) : true = nmB s := ((nmB_iff s).2 h).symm
theorem nmB_f {s : ByteArray} (h : ¬ NmOk s) : false = nmB s := by
  cases hb : nmB s with
  | true => exact absurd ((nmB_iff s).1 hb) h
  | false => rfl
theorem byte_lt (s : ByteArray) (i : Nat) (h : i < s.size) : 0 ≤ (s[i].toNat : Int) ∧ (s[i].toNat : Int) < 256 := ⟨by omega, by have := s[i].toNat_lt; omega⟩

set_option maxHeartbeats 2000000 in
theorem specName_any (s : ByteArray) (w : World) (hs : s.size ≤ 140737488351232) : Calls Try.prog 79 #[.string s] w (Ret w (.bool (nmB s))) := by
  by_cases h1 : s.toList = [46, 46, 46]
  · have h1' : (s.toList == [46, 46, 46]) = true := by rw [h1]; rfl
    have H := Lib.hid (nmB_t (s := s) (.inl h1))
    clear h1
    go_enter Try.func79, Try.ntmps79
    go_wp2_with fail
    go_ret
    exact ⟨ret_b H.out, Below.refl _ _⟩
  by_cases h2 : s.toList = [95]
  · have h1' : (s.toList == [46, 46, 46]) = false := by simpa using h1
    have h2' : (s.toList == [95]) = true := by rw [h2]; rfl
    have H := Lib.hid (nmB_t (s := s) (.inr (.inl h2)))
    clear h1 h2
    go_enter Try.func79, Try.ntmps79
    go_wp2_with fail
    go_ret
    exact ⟨ret_b H.out, Below.refl _ _⟩
  have h1' : (s.toList == [46, 46, 46]) = false := by simpa using h1
  have h2' : (s.toList == [95]) = false := by simpa using h2
  have H1 := Lib.hid h1
  have H2 := Lib.hid h2
  clear h1 h2
  go_enter Try.func79, Try.ntmps79
  go_wp2_with fail
  go_loopg [3] s.size (fun kq v3 w' => ∃ i : Nat, i ≤ s.size ∧ s.size - i ≤ kq ∧ v3 = .int .i64 i ∧ Aside0 (∀ j (h : j < s.size), j < i → (letterB s[j].toNat || (!((j : Int) == 0) && digitB s[j].toNat)) = true) ∧ Aside0 (Below w.heap.size w w'))
  case atStart => exact ⟨0, Nat.zero_le _, by omega, rfl, ⟨fun j _ h => absurd h (by omega)⟩, ⟨Below.refl _ _⟩⟩
  case round =>
    obtain ⟨i, hi, hg, rfl, HN, HW⟩ := hrel
    by_cases hlt : i < s.size
    · by_cases h12 : i ≤ 12
      · have hd : decide ((i : Int) ≤ 12) = true := decide_eq_true (by omega)
        have hd1 : decide ((i : Int) < (s.size : Int)) = true := decide_eq_true (by omega)
        have HC := Lib.hid (l1Letter_any (s[i].toNat : Int) ((i : Int) == 0) wr (byte_lt s i hlt).1 (byte_lt s i hlt).2)
        go_wp2_with fail
        refine HC.out.mono ?_
        rintro e w1 ⟨rfl, hb1⟩
        cases hb : (letterB s[i].toNat || (!((i : Int) == 0) && digitB s[i].toNat)) with
        | true =>
          have HB := Lib.hid hb
          clear hb
          go_wp2_with fail
          go_roundg (s.size - (i + 1))
          case measure => omega
          case rel =>
            refine ⟨i + 1, by omega, Nat.le_refl _, by go_num, ⟨fun j hj hji => ?_⟩, ⟨below_step HW.out hb1⟩⟩
            rcases Nat.lt_or_ge j i with h | h
            · exact HN.out j hj h
            · obtain rfl : j = i := by omega
              exact HB.out
        | false =>
          have HB := Lib.hid hb
          clear hb
          go_wp2_with fail
          go_ret
          refine ⟨ret_b (nmB_f ?_), below_step HW.out hb1⟩
          rintro (h | h | ⟨_, _, h⟩)
          · exact H1.out h
          · exact H2.out h
          · have := h i hlt
            rw [HB.out] at this
            cases this
      · have hd : decide ((i : Int) ≤ 12) = false := decide_eq_false (by omega)
        have hd1 : decide ((i : Int) < (s.size : Int)) = true := decide_eq_true (by omega)
        have hd2 : decide (1 ≤ (s.size : Int)) = true := decide_eq_true (by omega)
        have hd3 : decide ((s.size : Int) ≤ 12) = false := decide_eq_false (by omega)
        have HL := Lib.hid (show 12 < s.size by omega)
        go_wp2_with fail
        go_ret
        refine ⟨ret_b (nmB_f ?_), HW.out⟩
        rintro (h | h | ⟨_, h, _⟩)
        · exact H1.out h
        · exact H2.out h
        · have := HL.out
          omega
    · obtain rfl : i = s.size := by omega
      by_cases g1 : 1 ≤ s.size
      · have hd2 : decide (1 ≤ (s.size : Int)) = true := decide_eq_true (by omega)
        by_cases g2 : s.size ≤ 12
        · have hd3 : decide ((s.size : Int) ≤ 12) = true := decide_eq_true (by omega)
          have H := Lib.hid (nmB_t (s := s) (.inr (.inr ⟨g1, g2, fun i h => HN.out i h h⟩)))
          go_wp2_with fail
          go_ret
          exact ⟨ret_b H.out, HW.out⟩
        · have hd3 : decide ((s.size : Int) ≤ 12) = false := decide_eq_false (by omega)
          have H := Lib.hid (nmB_f (s := s) (by
            rintro (h | h | ⟨_, h, _⟩)
            · exact H1.out h
            · exact H2.out h
            · omega))
          go_wp2_with fail
          go_ret
          exact ⟨ret_b H.out, HW.out⟩
      · have hd2 : decide (1 ≤ (s.size : Int)) = false := decide_eq_false (by omega)
        have H := Lib.hid (nmB_f (s := s) (by
            rintro (h | h | ⟨h, _, _⟩)
            · exact H1.out h
            · exact H2.out h
            · omega))
        go_wp2_with fail
        go_ret
        exact ⟨ret_b H.out, HW.out⟩
theorem bytealgIndex_any (s : ByteArray) (c : Int) (w : World) : Calls Try.prog 122 #[.string s, .int .u8 c] w fun e w' => e = .returned (.int .i64 (Lib.indexByte s.data.toList c.toNat.toUInt8)) ∧ w' = w := by
  go_enter Try.func122, Try.ntmps122
  go_wp2
  rw [run_callFunc_extern Try.func124 (by kernel_rfl) (by kernel_rfl) (by kernel_rfl) (e := Extern.BytealgIndexByte.indexByte) (by kernel_rfl), Lib.run_indexByteString]
  simp only [Result.andThen]
  rw [Oper.upon_value]
  go_wp2
  go_ret
  exact ⟨rfl, rfl⟩
theorem indexByte_any (s : ByteArray) (c : Int) (w : World) : Calls Try.prog 114 #[.string s, .int .u8 c] w fun e w' => e = .returned (.int .i64 (Lib.indexByte s.data.toList c.toNat.toUInt8)) ∧ w' = w := by
  go_enter Try.func114, Try.ntmps114
  go_wp2_with fail
  refine (bytealgIndex_any s c w).mono ?_
  rintro e w1 ⟨rfl, rfl⟩
  go_wp2_with fail
  go_ret
  exact ⟨rfl, rfl⟩
theorem signs_tab : ∀ n : Fin 256, decide (0 ≤ Lib.indexByte [42, 63, 61, 43, 60] (n : Nat).toUInt8) = (decide ((n : Nat) = 42) || decide ((n : Nat) = 63) || decide ((n : Nat) = 61) || decide ((n : Nat) = 43) || decide ((n : Nat) = 60)) := by decide +kernel
theorem signs (c : Int) (h0 : 0 ≤ c) (h1 : c < 256) : decide (0 ≤ Lib.indexByte [42, 63, 61, 43, 60] c.toNat.toUInt8) = (c == 42 || c == 63 || c == 61 || c == 43 || c == 60) := by
  have h := signs_tab ⟨c.toNat, by omega⟩
  simp only at h
  rw [h, Bool.eq_iff_iff]
  simp
  omega
set_option maxHeartbeats 4000000 in
theorem implName_any (s : ByteArray) (w : World) (hs : s.size ≤ 140737488351232) : Calls Try.prog 84 #[.string s] w (Ret w (.bool (nmB s))) := by
  by_cases h1 : s.toList = [46, 46, 46]
  · have h1' : (s.toList == [46, 46, 46]) = true := by rw [h1]; rfl
    have H := Lib.hid (nmB_t (s := s) (.inl h1))
    clear h1
    go_enter Try.func84, Try.ntmps84
    go_wp2_with fail
    go_ret
    exact ⟨ret_b H.out, Below.refl _ _⟩
  by_cases h2 : s.toList = [95]
  · have h1' : (s.toList == [46, 46, 46]) = false := by simpa using h1
    have h2' : (s.toList == [95]) = true := by rw [h2]; rfl
    have H := Lib.hid (nmB_t (s := s) (.inr (.inl h2)))
    clear h1 h2
    go_enter Try.func84, Try.ntmps84
    go_wp2_with fail
    go_ret
    exact ⟨ret_b H.out, Below.refl _ _⟩
  have h1' : (s.toList == [46, 46, 46]) = false := by simpa using h1
  have h2' : (s.toList == [95]) = false := by simpa using h2
  have H1 := Lib.hid h1
  have H2 := Lib.hid h2
  clear h1 h2
  go_enter Try.func84, Try.ntmps84
  go_wp2_with fail
  go_loopg [3, 4] s.size (fun kq v3 v4 w' => ∃ i : Nat, i ≤ s.size ∧ s.size - i ≤ kq ∧ v3 = .int .i64 i ∧ Aside0 (∀ j (h : j < s.size), j < i → (letterB s[j].toNat || (!((j : Int) == 0) && digitB s[j].toNat)) = true) ∧ Aside0 (Below w.heap.size w w'))
  case atStart => exact ⟨0, Nat.zero_le _, by omega, rfl, ⟨fun j _ h => absurd h (by omega)⟩, ⟨Below.refl _ _⟩⟩
  case round =>
    obtain ⟨i, hi, hg, rfl, HN, HW⟩ := hrel
    by_cases hlt : i < s.size
    · have hd1 : decide ((i : Int) < (s.size : Int)) = true := decide_eq_true (by omega)
      obtain ⟨hc0, hc1⟩ := byte_lt s i hlt
      have HS := Lib.hid (signs (s[i].toNat : Int) hc0 hc1)
      have HK : Hid ((letterB s[i].toNat || (!((i : Int) == 0) && digitB s[i].toNat)) = true → ∀ j (h : j < s.size), j < i + 1 → (letterB s[j].toNat || (!((j : Int) == 0) && digitB s[j].toNat)) = true) := Lib.hid (fun hb j hj hji => by
        rcases Nat.lt_or_ge j i with h | h
        · exact HN.out j hj h
        · obtain rfl : j = i := by omega
          exact hb)
      have HF : Hid ((letterB s[i].toNat || (!((i : Int) == 0) && digitB s[i].toNat)) = false → false = nmB s) := Lib.hid (fun hb => nmB_f (by
          rintro (h | h | ⟨_, _, h⟩)
          · exact H1.out h
          · exact H2.out h
          · have := h i hlt
            rw [hb] at this
            cases this))
      clear HN
      have hI : ∀ W, Calls Try.prog 114 #[.string ⟨#[42, 63, 61, 43, 60]⟩, .int .u8 (s[i].toNat : Int)] W (fun e w' => e = .returned (.int .i64 (Lib.indexByte [42, 63, 61, 43, 60] (s[i].toNat : Int).toNat.toUInt8)) ∧ w' = W) := fun W => indexByte_any _ _ W
      have HI := Lib.hid hI
      clear hI
      generalize Lib.indexByte [42, 63, 61, 43, 60] (s[i].toNat : Int).toNat.toUInt8 = r at HI HS
      by_cases hA : 97 ≤ (s[i].toNat : Int) ∧ (s[i].toNat : Int) ≤ 122
      · obtain ⟨a1, a2⟩ := hA
        have HG := Lib.hid (show (letterB (s[i].toNat : Int) || (!((i : Int) == 0) && digitB (s[i].toNat : Int))) = true by simp [letterB, a1, a2])
        have a1' := decide_eq_true a1
        have a2' := decide_eq_true a2
        go_wp2_with fail
        go_roundg (s.size - (i + 1))
        case measure => omega
        case rel => exact ⟨i + 1, by omega, Nat.le_refl _, by go_num, ⟨HK.out HG.out⟩, ⟨HW.out⟩⟩
      · have hA' : (decide (97 ≤ (s[i].toNat : Int)) && decide ((s[i].toNat : Int) ≤ 122)) = false := by rw [Bool.eq_false_iff]; simp; omega
        have HA := Lib.hid hA'
        clear hA'
        by_cases a1 : 97 ≤ (s[i].toNat : Int)
        · have a2 : 122 < (s[i].toNat : Int) := by omega
          clear hA
          have a1' := decide_eq_true a1
          have a2' : decide ((s[i].toNat : Int) ≤ 122) = false := decide_eq_false (by omega)
          go_wp2_with fail
          refine (HI.out wr).mono ?_
          rintro e w1 ⟨rfl, rfl⟩
          by_cases hr : 0 ≤ r
          · have HG := Lib.hid (show (letterB (s[i].toNat : Int) || (!((i : Int) == 0) && digitB (s[i].toNat : Int))) = true by
              have := HS.out; rw [decide_eq_true hr] at this; unfold letterB; rw [HA.out]; simp at this ⊢; left; omega)
            have hr' := decide_eq_true hr
            go_wp2_with fail
            go_roundg (s.size - (i + 1))
            case measure => omega
            case rel => exact ⟨i + 1, by omega, Nat.le_refl _, by go_num, ⟨HK.out HG.out⟩, ⟨HW.out⟩⟩
          · have hr' : decide (0 ≤ r) = false := decide_eq_false hr
            have HG := Lib.hid (show (letterB (s[i].toNat : Int) || (!((i : Int) == 0) && digitB (s[i].toNat : Int))) = false by
              have := HS.out; rw [decide_eq_false hr] at this; unfold letterB digitB; rw [HA.out]; simp at this ⊢; omega)
            have e45 : ((s[i].toNat : Int) == 45) = false := by simp; omega
            have e48 : decide (48 ≤ (s[i].toNat : Int)) = true := decide_eq_true (by omega)
            have e57 : decide ((s[i].toNat : Int) ≤ 57) = false := decide_eq_false (by omega)
            by_cases i0 : 0 < i
            · have i0' : decide ((0 : Int) < (i : Int)) = true := decide_eq_true (by omega)
              go_wp2_with fail
              go_ret
              exact ⟨ret_b (HF.out HG.out), HW.out⟩
            · have i0' : decide ((0 : Int) < (i : Int)) = false := decide_eq_false (by omega)
              go_wp2_with fail
              go_ret
              exact ⟨ret_b (HF.out HG.out), HW.out⟩
        · have a1' : decide (97 ≤ (s[i].toNat : Int)) = false := decide_eq_false a1
          clear hA
          go_wp2_with fail
          refine (HI.out wr).mono ?_
          rintro e w1 ⟨rfl, rfl⟩
          by_cases hr : 0 ≤ r
          · have HG := Lib.hid (show (letterB (s[i].toNat : Int) || (!((i : Int) == 0) && digitB (s[i].toNat : Int))) = true by
              have := HS.out; rw [decide_eq_true hr] at this; unfold letterB; rw [HA.out]; simp at this ⊢; left; omega)
            have hr' := decide_eq_true hr
            go_wp2_with fail
            go_roundg (s.size - (i + 1))
            case measure => omega
            case rel => exact ⟨i + 1, by omega, Nat.le_refl _, by go_num, ⟨HK.out HG.out⟩, ⟨HW.out⟩⟩
          · have hr' : decide (0 ≤ r) = false := decide_eq_false hr
            have HL := Lib.hid (show letterB (s[i].toNat : Int) = false by
              have := HS.out; rw [decide_eq_false hr] at this; unfold letterB; rw [HA.out]; simp at this ⊢; omega)
            by_cases i0 : 0 < i
            · have i0' : decide ((0 : Int) < (i : Int)) = true := decide_eq_true (by omega)
              have HZ := Lib.hid (show ((i : Int) == 0) = false by simp; omega)
              by_cases hD : digitB (s[i].toNat : Int) = true
              · have HG := Lib.hid (show (letterB (s[i].toNat : Int) || (!((i : Int) == 0) && digitB (s[i].toNat : Int))) = true by rw [hD, HZ.out]; simp)
                by_cases d48 : 48 ≤ (s[i].toNat : Int)
                · have d57 : (s[i].toNat : Int) ≤ 57 := by simp [digitB, d48] at hD; omega
                  have d48' := decide_eq_true d48
                  have d57' := decide_eq_true d57
                  clear hD
                  go_wp2_with fail
                  go_roundg (s.size - (i + 1))
                  case measure => omega
                  case rel => exact ⟨i + 1, by omega, Nat.le_refl _, by go_num, ⟨HK.out HG.out⟩, ⟨HW.out⟩⟩
                · have d45 : ((s[i].toNat : Int) == 45) = true := by simp [digitB, d48] at hD; simp; omega
                  have d48' : decide (48 ≤ (s[i].toNat : Int)) = false := decide_eq_false d48
                  clear hD
                  go_wp2_with fail
                  go_roundg (s.size - (i + 1))
                  case measure => omega
                  case rel => exact ⟨i + 1, by omega, Nat.le_refl _, by go_num, ⟨HK.out HG.out⟩, ⟨HW.out⟩⟩
              · have HG := Lib.hid (show (letterB (s[i].toNat : Int) || (!((i : Int) == 0) && digitB (s[i].toNat : Int))) = false by rw [HL.out, Bool.eq_false_iff.2 hD]; simp)
                have d45 : ((s[i].toNat : Int) == 45) = false := by simp [digitB] at hD; simp; omega
                by_cases d48 : 48 ≤ (s[i].toNat : Int)
                · have d57' : decide ((s[i].toNat : Int) ≤ 57) = false := decide_eq_false (by simp [digitB, d48] at hD; omega)
                  have d48' := decide_eq_true d48
                  clear hD
                  go_wp2_with fail
                  go_ret
                  exact ⟨ret_b (HF.out HG.out), HW.out⟩
                · have d48' : decide (48 ≤ (s[i].toNat : Int)) = false := decide_eq_false d48
                  clear hD
                  go_wp2_with fail
                  go_ret
                  exact ⟨ret_b (HF.out HG.out), HW.out⟩
            · have i0' : decide ((0 : Int) < (i : Int)) = false := decide_eq_false (by omega)
              have HG := Lib.hid (show (letterB (s[i].toNat : Int) || (!((i : Int) == 0) && digitB (s[i].toNat : Int))) = false by
                obtain rfl : i = 0 := by omega
                rw [HL.out]; simp)
              go_wp2_with fail
              go_ret
              exact ⟨ret_b (HF.out HG.out), HW.out⟩
    · obtain rfl : i = s.size := by omega
      have HX : Hid (decide (1 ≤ (s.size : Int) ∧ (s.size : Int) ≤ 12) = nmB s) := Lib.hid (by
        by_cases g : 1 ≤ s.size ∧ s.size ≤ 12
        · rw [decide_eq_true (by omega)]
          exact nmB_t (.inr (.inr ⟨g.1, g.2, fun i h => HN.out i h h⟩))
        · rw [decide_eq_false (by omega)]
          refine nmB_f ?_
          rintro (h | h | ⟨h, h', _⟩)
          · exact H1.out h
          · exact H2.out h
          · omega)
      go_wp2_with fail
      refine (within_any _ _ _ _).mono ?_
      rintro e w1 ⟨rfl, hb1⟩
      rw [HX.out]
      go_wp2_with fail
      go_ret
      exact ⟨rfl, below_step HW.out hb1⟩
end Go.Proofs.Ytlklclebjeeaaaa
end
section
namespace Go.Proofs.Ytlklclebjeeaaaa
open Go.RowKit Go.Proofs.YtlklclebjeeaaaaW.PrintWords Go.Proofs.YtlklclebjeeaaaaW.PrintLast Go.Proofs.YtlklclebjeeaaaaW.PrintMore
set_option linter.unusedVariables false
set_option linter.unusedSimpArgs false
set_option maxHeartbeats 1000000 in
theorem l1Count_any : ∀ (x : Fm) (A3 : Option Addr) (c3 : Nat) (A4 : Option Addr) (c4 : Nat) (w : World), FmIn w x A3 c3 A4 c4 → x.size < 4611686018427387904 →
    Calls Try.prog 112 #[.agg #[.int .i64 x.f0, .string x.f1, .int .i64 x.f2, .slice A3 x.f3.length c3, .slice A4 x.f4.length c4]] w (Ret w (.int .i64 x.size)) := by
  intro x
  induction x using Fm.ind with
  | h x ih =>
    intro A3 c3 A4 c4 w hin hsz
    have hmax := hin.g4.2.1
    have hse := Fm.size_eq x
    have HS := Lib.hid hse
    have hszl : sizes x.f4 < 4611686018427387904 := by omega
    clear hse hsz
    go_enter Try.func112, Try.ntmps112
    go_wp2_with fail
    go_loopg [3, 4] x.f4.length (fun kq v3 v4 w' => ∃ i : Nat, i ≤ x.f4.length ∧ x.f4.length - i ≤ kq ∧ v4 = .int .i64 i ∧ v3 = .int .i64 ((1 + sizes (x.f4.take i) : Nat) : Int) ∧ Aside0 (w'.heap[w.heap.size]? = some (.cells #[.int .i64 x.f0, .string x.f1, .int .i64 x.f2, .slice A3 x.f3.length c3, .slice A4 x.f4.length c4] 34 (0, 0))) ∧ Aside0 (Below w.heap.size w w'))
    case atStart => exact ⟨0, Nat.zero_le _, by omega, rfl, by simp [sizes], ⟨blk_new w _⟩, ⟨below_new w _⟩⟩
    case round =>
      obtain ⟨i, hi, hg, rfl, rfl, HB, HW⟩ := hrel
      obtain ⟨q0, q1, q2, q3, q4⟩ := fm_cells HB.out
      by_cases hlt : i < x.f4.length
      · obtain ⟨ad, B3, d3, B4, d4, e, h0, h1, h2, h3, h4, hk⟩ := kid_at (Kd.C_below hin.g4 HW.out) i hlt
        have hle := sizes_take_le x.f4 (i + 1)
        rw [sizes_take _ _ hlt] at hle
        have HC := Lib.hid (ih x.f4[i] (List.getElem_mem hlt) B3 d3 B4 d4 wr hk (by omega))
        clear hk ih
        subst e
        go_wp2_with fail
        refine HC.out.mono ?_
        rintro e w1 ⟨rfl, hb1⟩
        go_wp2_with fail
        go_roundg (x.f4.length - (i + 1))
        case measure => omega
        case rel =>
          refine ⟨i + 1, by omega, Nat.le_refl _, by go_num, ?_, ⟨blk_below HB.out hb1⟩, ⟨below_step HW.out hb1⟩⟩
          rw [sizes_take _ _ hlt]; go_num
      · have he : i = x.f4.length := by omega
        subst he
        go_wp2_with fail
        go_ret
        refine ⟨?_, HW.out⟩
        rw [List.take_length, HS.out]
        rfl
end Go.Proofs.Ytlklclebjeeaaaa
end
section
namespace Go.Proofs.Ytlklclebjeeaaaa
open Go.RowKit Go.Proofs.YtlklclebjeeaaaaW.PrintWords Go.Proofs.YtlklclebjeeaaaaW.PrintLast Go.Proofs.YtlklclebjeeaaaaW.PrintMore
set_option linter.unusedVariables false
set_option linter.unusedSimpArgs false
def IsOk : Nat → Fm → Prop
  | 0, _ => False
  | n + 1, x => (x.f0 = 1 ∧ NmOk x.f1 ∧ x.f2 = 0 ∧ ScOk x.f3 ∧ x.f4.length = 0) ∨ (x.f0 = 2 ∧ x.f1.toList = [] ∧ 0 ≤ x.f2 ∧ x.f2 ≤ 999 ∧ x.f3.length = 0 ∧ x.f4.length = 0) ∨ (x.f0 = 3 ∧ x.f1.toList = [] ∧ x.f2 = 0 ∧ x.f3.length = 0 ∧ ∀ k, k ∈ x.f4 → IsOk n k)
theorem isOk1 {n : Nat} {x : Fm} (h : x.f0 = 1) : IsOk (n + 1) x ↔ NmOk x.f1 ∧ x.f2 = 0 ∧ ScOk x.f3 ∧ x.f4.length = 0 := by
  unfold IsOk
  constructor
  · rintro (⟨_, h⟩ | ⟨h2, _⟩ | ⟨h2, _⟩)
    · exact h
    · omega
    · omega
  · exact fun h2 => .inl ⟨h, h2⟩
theorem isOk2 {n : Nat} {x : Fm} (h : x.f0 = 2) : IsOk (n + 1) x ↔ x.f1.toList = [] ∧ 0 ≤ x.f2 ∧ x.f2 ≤ 999 ∧ x.f3.length = 0 ∧ x.f4.length = 0 := by
  unfold IsOk
  constructor
  · rintro (⟨h2, _⟩ | ⟨_, h⟩ | ⟨h2, _⟩)
    · omega
    · exact h
    · omega
  · exact fun h2 => .inr (.inl ⟨h, h2⟩)
theorem isOk3 {n : Nat} {x : Fm} (h1 : x.f0 ≠ 1) (h2 : x.f0 ≠ 2) : IsOk (n + 1) x ↔ x.f0 = 3 ∧ x.f1.toList = [] ∧ x.f2 = 0 ∧ x.f3.length = 0 ∧ ∀ k, k ∈ x.f4 → IsOk n k := by
  conv => lhs; unfold IsOk
  constructor
  · rintro (⟨h, _⟩ | ⟨h, _⟩ | h)
    · exact absurd h h1
    · exact absurd h h2
    · exact h
  · exact fun h => .inr (.inr h)
theorem name_size {x : Fm} (h : x.tot ≤ 1048576) : x.f1.size ≤ 140737488351232 := by rw [Fm.tot_eq] at h; omega
theorem kid_tot {x k : Fm} (h : x.tot ≤ 1048576) (hk : k ∈ x.f4) : k.tot ≤ 1048576 := by
  have := totL_mem hk
  rw [Fm.tot_eq] at h
  omega
set_option maxHeartbeats 4000000 in
set_option maxRecDepth 100000 in
theorem l1Is_any : ∀ (n : Nat) (x : Fm) (A3 : Option Addr) (c3 : Nat) (A4 : Option Addr) (c4 : Nat) (m : Int) (w : World), m = n → n ≤ 1000 → FmIn w x A3 c3 A4 c4 → x.tot ≤ 1048576 →
    Calls Try.prog 111 #[.agg #[.int .i64 x.f0, .string x.f1, .int .i64 x.f2, .slice A3 x.f3.length c3, .slice A4 x.f4.length c4], .int .i64 m] w (Ret w (.bool (pB (IsOk n x)))) := by
  intro n
  induction n with
  | zero =>
    intro x A3 c3 A4 c4 m w hm hn hin ht
    have tm : (m == 0) = true := by rw [beq_iff_eq]; omega
    clear hin ht hm
    go_enter Try.func111, Try.ntmps111
    go_wp2_with fail
    go_ret
    exact ⟨ret_b (pB_no (fun h => h)), below_new w _⟩
  | succ n ih =>
    intro x A3 c3 A4 c4 m w hm hn hin ht
    have tm : (m == 0) = false := by rw [beq_eq_false_iff_ne]; omega
    have m1 : -1000 ≤ m := by omega
    have m2 : m ≤ 1001 := by omega
    have HM := Lib.hid hm
    have HI := Lib.hid hin
    have HT := Lib.hid ht
    have IH := Lib.hid ih
    have hmax := hin.g4.2.1
    have HN := Lib.hid (specName_any x.f1 (w.alloc (.cells #[.int .i64 x.f0, .string x.f1, .int .i64 x.f2, .slice A3 x.f3.length c3, .slice A4 x.f4.length c4] 34)) (name_size ht))
    clear hm hin ht ih hn
    by_cases k1 : x.f0 = 1
    · have e1 : (x.f0 == 1) = true := by simpa using k1
      have K1 := Lib.hid k1
      clear k1
      go_enter Try.func111, Try.ntmps111
      go_wp2_with fail
      refine HN.out.mono ?_
      rintro e w1 ⟨rfl, hb1⟩
      obtain ⟨z1, b1⟩ := one_new hb1
      obtain ⟨p0, p1, p2, p3, p4⟩ := fm_cells z1
      have B1 := Lib.hid b1
      have HS := Lib.hid (l1Scopes_any x.f3 A3 c3 w1 (Kd.C_below HI.out.g3 b1) HI.out.l3)
      clear hb1 b1
      cases hq : nmB x.f1 with
      | false =>
        have HQ := Lib.hid hq
        clear hq
        go_wp2_with fail
        go_ret
        exact ⟨ret_b (pB_no (fun h => by have := nmB_t ((isOk1 K1.out).1 h).1; rw [HQ.out] at this; cases this)), B1.out⟩
      | true =>
        have HQ := Lib.hid hq
        clear hq
        by_cases h2 : x.f2 = 0
        · have t2 : (x.f2 == 0) = true := by simpa using h2
          have H2 := Lib.hid h2
          clear h2
          go_wp2_with fail
          refine HS.out.mono ?_
          rintro e w2 ⟨rfl, hb2⟩
          have z2 := blk_below z1 hb2
          have B2 := Lib.hid (below_step B1.out hb2)
          clear hb2 z1 p0 p1 p2 p3 p4
          obtain ⟨p0, p1, p2, p3, p4⟩ := fm_cells z2
          cases hq : pB (ScOk x.f3) with
          | false =>
            have HQ2 := Lib.hid hq
            clear hq
            go_wp2_with fail
            go_ret
            exact ⟨ret_b (pB_no (fun h => by have := pB_yes ((isOk1 K1.out).1 h).2.2.1; rw [HQ2.out] at this; cases this)), B2.out⟩
          | true =>
            have HQ2 := Lib.hid hq
            clear hq
            by_cases h3 : x.f4.length = 0
            · have t3 : ((x.f4.length : Int) == 0) = true := by rw [beq_iff_eq]; omega
              have H3 := Lib.hid h3
              clear h3
              go_wp2_with fail
              go_ret
              exact ⟨ret_b (pB_yes ((isOk1 K1.out).2 ⟨(nmB_iff _).1 HQ.out, H2.out, pB_iff.1 HQ2.out, H3.out⟩)), B2.out⟩
            · have t3 : ((x.f4.length : Int) == 0) = false := by rw [beq_eq_false_iff_ne]; omega
              have H3 := Lib.hid h3
              clear h3
              go_wp2_with fail
              go_ret
              exact ⟨ret_b (pB_no (fun h => H3.out ((isOk1 K1.out).1 h).2.2.2)), B2.out⟩
        · have t2 : (x.f2 == 0) = false := by simpa using h2
          have H2 := Lib.hid h2
          clear h2
          go_wp2_with fail
          go_ret
          exact ⟨ret_b (pB_no (fun h => H2.out ((isOk1 K1.out).1 h).2.1)), B1.out⟩
    · have e1 : (x.f0 == 1) = false := by simpa using k1
      have K1 := Lib.hid k1
      clear k1 HN
      by_cases k2 : x.f0 = 2
      · have e2 : (x.f0 == 2) = true := by simpa using k2
        have K2 := Lib.hid k2
        clear k2
        have B0 := Lib.hid (below_new w (.cells #[.int .i64 x.f0, .string x.f1, .int .i64 x.f2, .slice A3 x.f3.length c3, .slice A4 x.f4.length c4] 34))
        go_enter Try.func111, Try.ntmps111
        by_cases h1 : x.f1.toList = []
        · have t1 : (x.f1.toList == []) = true := by rw [h1]; rfl
          have H1 := Lib.hid h1
          clear h1
          by_cases h2 : 0 ≤ x.f2
          · have t2 : decide (x.f2 ≥ 0) = true := decide_eq_true h2
            have t2' : decide (0 ≤ x.f2) = true := decide_eq_true h2
            have H2 := Lib.hid h2
            clear h2
            by_cases h3 : x.f2 ≤ 999
            · have t3 : decide (x.f2 ≤ 999) = true := decide_eq_true h3
              have H3 := Lib.hid h3
              clear h3
              by_cases h4 : x.f3.length = 0
              · have t4 : ((x.f3.length : Int) == 0) = true := by rw [beq_iff_eq]; omega
                have H4 := Lib.hid h4
                clear h4
                by_cases h5 : x.f4.length = 0
                · have t5 : ((x.f4.length : Int) == 0) = true := by rw [beq_iff_eq]; omega
                  have H5 := Lib.hid h5
                  clear h5
                  go_wp2_with fail
                  go_ret
                  exact ⟨ret_b (pB_yes ((isOk2 K2.out).2 ⟨H1.out, H2.out, H3.out, H4.out, H5.out⟩)), B0.out⟩
                · have t5 : ((x.f4.length : Int) == 0) = false := by rw [beq_eq_false_iff_ne]; omega
                  have H5 := Lib.hid h5
                  clear h5
                  go_wp2_with fail
                  go_ret
                  exact ⟨ret_b (pB_no (fun h => H5.out ((isOk2 K2.out).1 h).2.2.2.2)), B0.out⟩
              · have t4 : ((x.f3.length : Int) == 0) = false := by rw [beq_eq_false_iff_ne]; omega
                have H4 := Lib.hid h4
                clear h4
                go_wp2_with fail
                go_ret
                exact ⟨ret_b (pB_no (fun h => H4.out ((isOk2 K2.out).1 h).2.2.2.1)), B0.out⟩
            · have t3 : decide (x.f2 ≤ 999) = false := decide_eq_false h3
              have H3 := Lib.hid h3
              clear h3
              go_wp2_with fail
              go_ret
              exact ⟨ret_b (pB_no (fun h => by have h1 := H3.out; have h2 := ((isOk2 K2.out).1 h).2.2.1; omega)), B0.out⟩
          · have t2 : decide (x.f2 ≥ 0) = false := decide_eq_false h2
            have t2' : decide (0 ≤ x.f2) = false := decide_eq_false h2
            have H2 := Lib.hid h2
            clear h2
            go_wp2_with fail
            go_ret
            exact ⟨ret_b (pB_no (fun h => by have h1 := H2.out; have h2 := ((isOk2 K2.out).1 h).2.1; omega)), B0.out⟩
        · have t1 : (x.f1.toList == []) = false := by rw [beq_eq_false_iff_ne]; exact h1
          have H1 := Lib.hid h1
          clear h1
          go_wp2_with fail
          go_ret
          exact ⟨ret_b (pB_no (fun h => H1.out ((isOk2 K2.out).1 h).1)), B0.out⟩
      · have e2 : (x.f0 == 2) = false := by simpa using k2
        have K2 := Lib.hid k2
        clear k2
        by_cases k3 : x.f0 = 3
        · have e3 : (x.f0 != 3) = false := by simpa using k3
          have e3' : (x.f0 == 3) = true := by simpa using k3
          have K3 := Lib.hid k3
          clear k3
          have B0 := Lib.hid (below_new w (.cells #[.int .i64 x.f0, .string x.f1, .int .i64 x.f2, .slice A3 x.f3.length c3, .slice A4 x.f4.length c4] 34))
          obtain ⟨p0, p1, p2, p3, p4⟩ := fm_cells (blk_new w (.cells #[.int .i64 x.f0, .string x.f1, .int .i64 x.f2, .slice A3 x.f3.length c3, .slice A4 x.f4.length c4] 34))
          clear p0 p1 p2 p3
          go_enter Try.func111, Try.ntmps111
          by_cases h1 : x.f1.toList = []
          · have t1 : (x.f1.toList != []) = false := by rw [h1]; rfl
            have t1' : (x.f1.toList == []) = true := by rw [h1]; rfl
            have H1 := Lib.hid h1
            clear h1
            by_cases h2 : x.f2 = 0
            · have t2 : (x.f2 != 0) = false := by simpa using h2
              have H2 := Lib.hid h2
              clear h2
              by_cases h4 : x.f3.length = 0
              · have t4 : ((x.f3.length : Int) != 0) = false := by simp [h4]
                have t4' : ((x.f3.length : Int) == 0) = true := by rw [beq_iff_eq]; omega
                have H4 := Lib.hid h4
                clear h4
                go_wp2_with fail
                go_loopg [5] x.f4.length (fun kq v5 w' => ∃ i : Nat, i ≤ x.f4.length ∧ x.f4.length - i ≤ kq ∧ v5 = .int .i64 i ∧ Aside0 (∀ j (h : j < x.f4.length), j < i → IsOk n x.f4[j]) ∧ Aside0 (Below (w.alloc (.cells #[.int .i64 x.f0, .string x.f1, .int .i64 x.f2, .slice A3 x.f3.length c3, .slice A4 x.f4.length c4] 34)).heap.size (w.alloc (.cells #[.int .i64 x.f0, .string x.f1, .int .i64 x.f2, .slice A3 x.f3.length c3, .slice A4 x.f4.length c4] 34)) w'))
                case atStart => exact ⟨0, Nat.zero_le _, by omega, rfl, ⟨fun j _ h => absurd h (by omega)⟩, ⟨Below.refl _ _⟩⟩
                case round =>
                  obtain ⟨i, hi, hg, rfl, HN, HW⟩ := hrel
                  have q4 := ck0 HW.out p4
                  have HW0 := Lib.hid (below_step B0.out HW.out)
                  by_cases hlt : i < x.f4.length
                  · obtain ⟨ad, G3, m3, G4, m4, e, g0, g1, g2, g3, g4, hk⟩ := kid_at (Kd.C_below HI.out.g4 HW0.out) i hlt
                    subst e
                    have HC := Lib.hid (IH.out x.f4[i] G3 m3 G4 m4 (m - 1) wr (by have := HM.out; omega) (by have := HM.out; omega) hk (kid_tot HT.out (List.getElem_mem hlt)))
                    clear hk
                    go_wp2_with fail
                    refine HC.out.mono ?_
                    rintro e w1 ⟨rfl, hb1⟩
                    have HB1 := Lib.hid hb1
                    clear hb1
                    cases he : pB (IsOk n x.f4[i]) with
                    | true =>
                      have HE := Lib.hid he
                      clear he
                      go_wp2_with fail
                      go_roundg (x.f4.length - (i + 1))
                      case measure => omega
                      case rel =>
                        refine ⟨i + 1, by omega, Nat.le_refl _, by go_num, ⟨fun j hj hji => ?_⟩, ⟨below_step HW.out HB1.out⟩⟩
                        rcases Nat.lt_or_ge j i with h | h
                        · exact HN.out j hj h
                        · obtain rfl : j = i := by omega
                          exact pB_iff.1 HE.out
                    | false =>
                      have HE := Lib.hid he
                      clear he
                      go_wp2_with fail
                      go_ret
                      refine ⟨ret_b (pB_no (fun h => ?_)), below_step HW0.out HB1.out⟩
                      have := pB_yes (((isOk3 K1.out K2.out).1 h).2.2.2.2 _ (List.getElem_mem hlt))
                      rw [HE.out] at this
                      cases this
                  · obtain rfl : i = x.f4.length := by omega
                    go_wp2_with fail
                    go_ret
                    refine ⟨ret_b (pB_yes ((isOk3 K1.out K2.out).2 ⟨K3.out, H1.out, H2.out, H4.out, fun k hk => ?_⟩)), HW0.out⟩
                    obtain ⟨j, hj, rfl⟩ := List.getElem_of_mem hk
                    exact HN.out j hj hj
              · have t4 : ((x.f3.length : Int) != 0) = true := by rw [bne_iff_ne]; omega
                have t4' : ((x.f3.length : Int) == 0) = false := by rw [beq_eq_false_iff_ne]; omega
                have H4 := Lib.hid h4
                clear h4
                go_wp2_with fail
                go_ret
                exact ⟨ret_b (pB_no (fun h => by have h1 := H4.out; have h2 := ((isOk3 K1.out K2.out).1 h).2.2.2.1; omega)), B0.out⟩
            · have t2 : (x.f2 != 0) = true := by simpa using h2
              have H2 := Lib.hid h2
              clear h2
              go_wp2_with fail
              go_ret
              exact ⟨ret_b (pB_no (fun h => H2.out ((isOk3 K1.out K2.out).1 h).2.2.1)), B0.out⟩
          · have t1 : (x.f1.toList != []) = true := by rw [bne_iff_ne]; exact h1
            have t1' : (x.f1.toList == []) = false := by rw [beq_eq_false_iff_ne]; exact h1
            have H1 := Lib.hid h1
            clear h1
            go_wp2_with fail
            go_ret
            exact ⟨ret_b (pB_no (fun h => H1.out ((isOk3 K1.out K2.out).1 h).2.1)), B0.out⟩
        · have e3 : (x.f0 != 3) = true := by simpa using k3
          have e3' : (x.f0 == 3) = false := by simpa using k3
          have K3 := Lib.hid k3
          clear k3
          have B0 := Lib.hid (below_new w (.cells #[.int .i64 x.f0, .string x.f1, .int .i64 x.f2, .slice A3 x.f3.length c3, .slice A4 x.f4.length c4] 34))
          go_enter Try.func111, Try.ntmps111
          go_wp2_with fail
          go_ret
          exact ⟨ret_b (pB_no (fun h => K3.out ((isOk3 K1.out K2.out).1 h).1)), B0.out⟩
def FmOk (x : Fm) : Prop := IsOk 40 x ∧ x.size ≤ 400
theorem specValid_any (x : Fm) (A3 : Option Addr) (c3 : Nat) (A4 : Option Addr) (c4 : Nat) (w : World) (hin : FmIn w x A3 c3 A4 c4) (ht : x.tot ≤ 1048576) :
    Calls Try.prog 82 #[.agg #[.int .i64 x.f0, .string x.f1, .int .i64 x.f2, .slice A3 x.f3.length c3, .slice A4 x.f4.length c4]] w (Ret w (.bool (pB (FmOk x)))) := by
  have hb := below_new w (.cells #[.int .i64 x.f0, .string x.f1, .int .i64 x.f2, .slice A3 x.f3.length c3, .slice A4 x.f4.length c4] 34)
  have HI := Lib.hid (l1Is_any 40 x A3 c3 A4 c4 40 _ rfl (by omega) (hin.below hb) ht)
  have hsz : x.size < 4611686018427387904 := by have := sizes_totL x; omega
  have HS := Lib.hid (fun W hb => l1Count_any x A3 c3 A4 c4 W (hin.below hb) hsz)
  clear hb hin
  go_enter Try.func82, Try.ntmps82
  go_wp2_with fail
  refine HI.out.mono ?_
  rintro e w1 ⟨rfl, hb1⟩
  obtain ⟨z1, b1⟩ := one_new hb1
  obtain ⟨p0, p1, p2, p3, p4⟩ := fm_cells z1
  have B1 := Lib.hid b1
  have HS1 := Lib.hid (HS.out _ b1)
  clear hb1 b1 HS
  cases hq : pB (IsOk 40 x) with
  | false =>
    have HQ := Lib.hid hq
    clear hq
    go_wp2_with fail
    go_ret
    exact ⟨ret_b (pB_no (fun h => by have := pB_yes h.1; rw [HQ.out] at this; cases this)), B1.out⟩
  | true =>
    have HQ := Lib.hid hq
    clear hq
    go_wp2_with fail
    refine HS1.out.mono ?_
    rintro e w2 ⟨rfl, hb2⟩
    have B2 := Lib.hid (below_step B1.out hb2)
    clear hb2
    by_cases h4 : x.size ≤ 400
    · have t1 : decide ((x.size : Int) ≤ 400) = true := decide_eq_true (by omega)
      have H4 := Lib.hid h4
      clear h4
      go_wp2_with fail
      go_ret
      exact ⟨ret_b (pB_yes ⟨pB_iff.1 HQ.out, H4.out⟩), B2.out⟩
    · have t1 : decide ((x.size : Int) ≤ 400) = false := decide_eq_false (by omega)
      have H4 := Lib.hid h4
      clear h4
      go_wp2_with fail
      go_ret
      exact ⟨ret_b (pB_no (fun h => by have h1 := H4.out; have h2 := h.2; omega)), B2.out⟩
end Go.Proofs.Ytlklclebjeeaaaa
end
section
namespace Go.Proofs.Ytlklclebjeeaaaa
open Go.RowKit Go.Proofs.YtlklclebjeeaaaaW.PrintWords Go.Proofs.YtlklclebjeeaaaaW.PrintLast Go.Proofs.YtlklclebjeeaaaaW.PrintMore
set_option linter.unusedVariables false
set_option linter.unusedSimpArgs false
def LeftAt (w : World) (g : Nat) (L : Int) : Prop := w.heap[g]? = some (.cells #[.int .i64 L] 3 (0, 0))
def OkPost (n : Nat) (x : Fm) (L : Int) (g : Nat) (w0 : World) (e : Ending) (w' : World) : Prop :=
  ∃ b, e = .returned (.bool b) ∧ (b = true ↔ IsOk n x ∧ (x.size : Int) ≤ L) ∧ Below w0.heap.size w0 w' ∧ (b = true → LeftAt w' g (L - x.size))
theorem okPost_no {n : Nat} {x : Fm} {L : Int} {g : Nat} {w0 w' : World} (h : ¬ (IsOk n x ∧ (x.size : Int) ≤ L)) (hb : Below w0.heap.size w0 w') : OkPost n x L g w0 (.returned (.bool false)) w' :=
  ⟨false, rfl, ⟨(fun h => nomatch h), (fun h2 => absurd h2 h)⟩, hb, (fun h => nomatch h)⟩
theorem okPost_yes {n : Nat} {x : Fm} {L : Int} {g : Nat} {w0 w' : World} (h : IsOk n x ∧ (x.size : Int) ≤ L) (hb : Below w0.heap.size w0 w') (hl : LeftAt w' g (L - x.size)) : OkPost n x L g w0 (.returned (.bool true)) w' :=
  ⟨true, rfl, ⟨fun _ => h, fun _ => rfl⟩, hb, fun _ => hl⟩
set_option maxHeartbeats 8000000 in
set_option maxRecDepth 100000 in
theorem formOk_any : ∀ (n : Nat) (x : Fm) (A3 : Option Addr) (c3 : Nat) (A4 : Option Addr) (c4 : Nat) (d L : Int) (g : Nat) (w0 w : World), d + n = 41 → 1 ≤ d → 0 ≤ L → L ≤ 400 → x.tot ≤ 1048576 → FmIn w0 x A3 c3 A4 c4 → Below w0.heap.size w0 w → w0.heap.size ≤ g → LeftAt w g L →
    Calls Try.prog 103 #[.agg #[.int .i64 x.f0, .string x.f1, .int .i64 x.f2, .slice A3 x.f3.length c3, .slice A4 x.f4.length c4], .int .i64 d, .pointer (some ⟨g, 0, none⟩)] w (OkPost n x L g w0) := by
  intro n
  induction n with
  | zero =>
    intro x A3 c3 A4 c4 d L g w0 w hd hd1 hL0 hL1 ht hin hb hg hl
    have hgw : g < w.heap.size := by
      rcases Nat.lt_or_ge g w.heap.size with h | h
      · exact h
      · unfold LeftAt at hl; rw [Array.getElem?_eq_none h] at hl; cases hl
    have ka := blk_below hl (below_new w (.cells #[.int .i64 x.f0, .string x.f1, .int .i64 x.f2, .slice A3 x.f3.length c3, .slice A4 x.f4.length c4] 34))
    have hk0 := (blk_cell ka 0).trans (show _ = some (Value.int .i64 L) from rfl)
    have hf0 := blk_frozen ka 0
    have ks := blk_below (blk_set hl 0 (.int .i64 (L - 1))) (below_new (w.setCell ⟨g, 0, none⟩ (.int .i64 (L - 1))) (.cells #[.int .i64 x.f0, .string x.f1, .int .i64 x.f2, .slice A3 x.f3.length c3, .slice A4 x.f4.length c4] 34))
    have hk1 := (blk_cell ks 0).trans (show _ = some (Value.int .i64 (L - 1)) from by simp)
    have HB := Lib.hid (below_step (Below.setCell hb (p := ⟨g, 0, none⟩) hg (.int .i64 (L - 1))) (below_new (w.setCell ⟨g, 0, none⟩ (.int .i64 (L - 1))) (.cells #[.int .i64 x.f0, .string x.f1, .int .i64 x.f2, .slice A3 x.f3.length c3, .slice A4 x.f4.length c4] 34)))
    have h40 : d > 40 := by omega
    have t2 : decide (d > 40) = true := decide_eq_true (by omega)
    have t2' : decide (40 < d) = true := decide_eq_true (by omega)
    clear hin ht hb hl ka ks hd
    by_cases h0 : L - 1 < 0
    · have t1 : decide (L - 1 < 0) = true := decide_eq_true h0
      clear h0
      go_enter Try.func103, Try.ntmps103
      go_wp2_with fail


      go_ret
      exact okPost_no (fun h => h.1) HB.out
    · have t1 : decide (L - 1 < 0) = false := decide_eq_false h0
      clear h0
      go_enter Try.func103, Try.ntmps103
      go_wp2_with fail
      go_ret
      exact okPost_no (fun h => h.1) HB.out
  | succ n ih =>
    intro x A3 c3 A4 c4 d L g w0 w hd hd1 hL0 hL1 ht hin hb hg hl
    have hgw : g < w.heap.size := by
      rcases Nat.lt_or_ge g w.heap.size with h | h
      · exact h
      · unfold LeftAt at hl; rw [Array.getElem?_eq_none h] at hl; cases hl
    have ka := blk_below hl (below_new w (.cells #[.int .i64 x.f0, .string x.f1, .int .i64 x.f2, .slice A3 x.f3.length c3, .slice A4 x.f4.length c4] 34))
    have hk0 := (blk_cell ka 0).trans (show _ = some (Value.int .i64 L) from rfl)
    have hf0 := blk_frozen ka 0
    have ks := blk_below (blk_set hl 0 (.int .i64 (L - 1))) (below_new (w.setCell ⟨g, 0, none⟩ (.int .i64 (L - 1))) (.cells #[.int .i64 x.f0, .string x.f1, .int .i64 x.f2, .slice A3 x.f3.length c3, .slice A4 x.f4.length c4] 34))
    have hk1 := (blk_cell ks 0).trans (show _ = some (Value.int .i64 (L - 1)) from by simp)
    have KS : LeftAt ((w.setCell ⟨g, 0, none⟩ (.int .i64 (L - 1))).alloc (.cells #[.int .i64 x.f0, .string x.f1, .int .i64 x.f2, .slice A3 x.f3.length c3, .slice A4 x.f4.length c4] 34)) g (L - 1) := by simpa [LeftAt] using ks
    have hz0 := blk_new (w.setCell ⟨g, 0, none⟩ (.int .i64 (L - 1))) (.cells #[.int .i64 x.f0, .string x.f1, .int .i64 x.f2, .slice A3 x.f3.length c3, .slice A4 x.f4.length c4] 34)
    rw [show (w.setCell ⟨g, 0, none⟩ (.int .i64 (L - 1))).heap.size = w.heap.size from by simp] at hz0
    have HB0 := below_step (Below.setCell hb (p := ⟨g, 0, none⟩) hg (.int .i64 (L - 1))) (below_new (w.setCell ⟨g, 0, none⟩ (.int .i64 (L - 1))) (.cells #[.int .i64 x.f0, .string x.f1, .int .i64 x.f2, .slice A3 x.f3.length c3, .slice A4 x.f4.length c4] 34))
    have HB := Lib.hid HB0
    have hsz := Fm.size_eq x
    have hmax := hin.g4.2.1
    by_cases h0 : L - 1 < 0
    · have t1 : decide (L - 1 < 0) = true := decide_eq_true h0
      have H0 := Lib.hid (show ¬ ((x.size : Int) ≤ L) by omega)
      clear h0 hin ht hb hl ka ks hd hsz hz0 HB0 ih KS
      go_enter Try.func103, Try.ntmps103
      go_wp2_with fail
      go_ret
      exact okPost_no (fun h => by have h1 := H0.out; have h2 := h.2; omega) HB.out
    have t1 : decide (L - 1 < 0) = false := decide_eq_false h0
    have hd40 : d ≤ 40 := by omega
    have t2 : decide (d > 40) = false := decide_eq_false (by omega)
    have t2' : decide (40 < d) = false := decide_eq_false (by omega)
    have HD := Lib.hid hd
    have HI := Lib.hid (hin.below HB0)
    have HI0 := Lib.hid hin
    have HT := Lib.hid ht
    have IH := Lib.hid ih
    have HSZ := Lib.hid hsz
    have HKS := Lib.hid KS
    have HZ0 := Lib.hid hz0
    have HNm := Lib.hid (implName_any x.f1 ((w.setCell ⟨g, 0, none⟩ (.int .i64 (L - 1))).alloc (.cells #[.int .i64 x.f0, .string x.f1, .int .i64 x.f2, .slice A3 x.f3.length c3, .slice A4 x.f4.length c4] 34)) (name_size ht))
    have HWi := Lib.hid (within_any x.f2 0 999 ((w.setCell ⟨g, 0, none⟩ (.int .i64 (L - 1))).alloc (.cells #[.int .i64 x.f0, .string x.f1, .int .i64 x.f2, .slice A3 x.f3.length c3, .slice A4 x.f4.length c4] 34)))
    clear hd hin ht ih hsz KS ks hb hl ka HB0
    by_cases k1 : x.f0 = 1
    · have e1 : (x.f0 == 1) = true := by simpa using k1
      have K1 := Lib.hid k1
      clear k1 HWi hz0
      go_enter Try.func103, Try.ntmps103
      go_wp2_with fail
      refine HNm.out.mono ?_
      rintro e w1 ⟨rfl, hb1⟩
      have z1 := blk_below HZ0.out hb1
      have l1 := blk_below HKS.out hb1
      obtain ⟨p0, p1, p2, p3, p4⟩ := fm_cells z1
      have B1 := Lib.hid (below_step HB.out hb1)
      have HS := Lib.hid (scopesOk_any x.f3 A3 c3 w1 (Kd.C_below HI0.out.g3 B1.out) HI0.out.l3)
      clear hb1
      cases hq : nmB x.f1 with
      | false =>
        have HQ := Lib.hid hq
        clear hq
        go_wp2_with fail
        go_ret
        exact okPost_no (fun h => by have := nmB_t ((isOk1 K1.out).1 h.1).1; rw [HQ.out] at this; cases this) B1.out
      | true =>
        have HQ := Lib.hid hq
        clear hq
        by_cases h2 : x.f2 = 0
        · have t3 : (x.f2 == 0) = true := by simpa using h2
          have H2 := Lib.hid h2
          clear h2
          go_wp2_with fail
          refine HS.out.mono ?_
          rintro e w2 ⟨rfl, hb2⟩
          have z2 := blk_below z1 hb2
          have L2 := Lib.hid (blk_below l1 hb2)
          have B2 := Lib.hid (below_step B1.out hb2)
          clear hb2 z1 l1 p0 p1 p2 p3 p4
          obtain ⟨p0, p1, p2, p3, p4⟩ := fm_cells z2
          cases hq : pB (ScOk x.f3) with
          | false =>
            have HQ2 := Lib.hid hq
            clear hq
            go_wp2_with fail
            go_ret
            exact okPost_no (fun h => by have := pB_yes ((isOk1 K1.out).1 h.1).2.2.1; rw [HQ2.out] at this; cases this) B2.out
          | true =>
            have HQ2 := Lib.hid hq
            clear hq
            by_cases h3 : x.f4.length = 0
            · have t4 : ((x.f4.length : Int) == 0) = true := by rw [beq_iff_eq]; omega
              have H3 := Lib.hid h3
              have H0 := Lib.hid h0
              clear h3 h0
              go_wp2_with fail
              go_ret
              have hs1 : x.size = 1 := by have h1 := HSZ.out; rw [List.length_eq_zero_iff.1 H3.out] at h1; exact h1
              have hc1 : (x.size : Int) = 1 := by omega
              exact okPost_yes ⟨(isOk1 K1.out).2 ⟨(nmB_iff _).1 HQ.out, H2.out, pB_iff.1 HQ2.out, H3.out⟩, by have := H0.out; omega⟩ B2.out (by rw [hc1]; exact L2.out)
            · have t4 : ((x.f4.length : Int) == 0) = false := by rw [beq_eq_false_iff_ne]; omega
              have H3 := Lib.hid h3
              clear h3
              go_wp2_with fail
              go_ret
              exact okPost_no (fun h => H3.out ((isOk1 K1.out).1 h.1).2.2.2) B2.out
        · have t3 : (x.f2 == 0) = false := by simpa using h2
          have H2 := Lib.hid h2
          clear h2
          go_wp2_with fail
          go_ret
          exact okPost_no (fun h => H2.out ((isOk1 K1.out).1 h.1).2.1) B1.out
    have e1 : (x.f0 == 1) = false := by simpa using k1
    have K1 := Lib.hid k1
    clear k1 HNm
    obtain ⟨p0, p1, p2, p3, p4⟩ := fm_cells hz0
    by_cases k2 : x.f0 = 2
    · have e2 : (x.f0 == 2) = true := by simpa using k2
      have K2 := Lib.hid k2
      clear k2 hz0
      go_enter Try.func103, Try.ntmps103
      by_cases h1 : x.f1.toList = []
      · have t3 : (x.f1.toList == []) = true := by rw [h1]; rfl
        have H1 := Lib.hid h1
        clear h1
        go_wp2_with fail
        refine HWi.out.mono ?_
        rintro e w1 ⟨rfl, hb1⟩
        have z1 := blk_below HZ0.out hb1
        have L1 := Lib.hid (blk_below HKS.out hb1)
        have B1 := Lib.hid (below_step HB.out hb1)
        clear hb1 p0 p1 p2 p3 p4
        obtain ⟨p0, p1, p2, p3, p4⟩ := fm_cells z1
        by_cases h2 : 0 ≤ x.f2 ∧ x.f2 ≤ 999
        · rw [decide_eq_true h2]
          have H2 := Lib.hid h2
          clear h2
          by_cases h4 : x.f3.length = 0
          · have t4 : ((x.f3.length : Int) == 0) = true := by rw [beq_iff_eq]; omega
            have H4 := Lib.hid h4
            clear h4
            by_cases h5 : x.f4.length = 0
            · have t5 : ((x.f4.length : Int) == 0) = true := by rw [beq_iff_eq]; omega
              have H5 := Lib.hid h5
              have H0 := Lib.hid h0
              clear h5 h0
              go_wp2_with fail
              go_ret
              have hs1 : x.size = 1 := by have h1 := HSZ.out; rw [List.length_eq_zero_iff.1 H5.out] at h1; exact h1
              have hc1 : (x.size : Int) = 1 := by omega
              exact okPost_yes ⟨(isOk2 K2.out).2 ⟨H1.out, H2.out.1, H2.out.2, H4.out, H5.out⟩, by have := H0.out; omega⟩ B1.out (by rw [hc1]; exact L1.out)
            · have t5 : ((x.f4.length : Int) == 0) = false := by rw [beq_eq_false_iff_ne]; omega
              have H5 := Lib.hid h5
              clear h5
              go_wp2_with fail
              go_ret
              exact okPost_no (fun h => H5.out ((isOk2 K2.out).1 h.1).2.2.2.2) B1.out
          · have t4 : ((x.f3.length : Int) == 0) = false := by rw [beq_eq_false_iff_ne]; omega
            have H4 := Lib.hid h4
            clear h4
            go_wp2_with fail
            go_ret
            exact okPost_no (fun h => H4.out ((isOk2 K2.out).1 h.1).2.2.2.1) B1.out
        · rw [decide_eq_false h2]
          have H2 := Lib.hid h2
          clear h2
          go_wp2_with fail
          go_ret
          exact okPost_no (fun h => H2.out ⟨((isOk2 K2.out).1 h.1).2.1, ((isOk2 K2.out).1 h.1).2.2.1⟩) B1.out
      · have t3 : (x.f1.toList == []) = false := by rw [beq_eq_false_iff_ne]; exact h1
        have H1 := Lib.hid h1
        clear h1
        go_wp2_with fail
        go_ret
        exact okPost_no (fun h => H1.out ((isOk2 K2.out).1 h.1).1) HB.out
    have e2 : (x.f0 == 2) = false := by simpa using k2
    have K2 := Lib.hid k2
    clear k2 HWi
    by_cases k3 : x.f0 = 3
    · have e3 : (x.f0 == 3) = true := by simpa using k3
      have K3 := Lib.hid k3
      clear k3
      go_enter Try.func103, Try.ntmps103
      by_cases h1 : x.f1.toList = []
      · have t3 : (x.f1.toList != []) = false := by rw [h1]; rfl
        have t3' : (x.f1.toList == []) = true := by rw [h1]; rfl
        have H1 := Lib.hid h1
        clear h1
        by_cases h2 : x.f2 = 0
        · have t4 : (x.f2 != 0) = false := by simpa using h2
          have H2 := Lib.hid h2
          clear h2
          by_cases h4 : x.f3.length = 0
          · have t5 : decide ((x.f3.length : Int) > 0) = false := decide_eq_false (by omega)
            have t5' : decide ((0 : Int) < (x.f3.length : Int)) = false := decide_eq_false (by omega)
            have t5'' : decide (0 < x.f3.length) = false := decide_eq_false (by omega)
            have H4 := Lib.hid h4
            clear h4
            go_wp2_with fail
            go_loopg [8, 86] x.f4.length (fun kq v8 v86 w' => ∃ i : Nat, i ≤ x.f4.length ∧ x.f4.length - i ≤ kq ∧ v86 = .int .i64 i ∧ Aside0 (∀ j (h : j < x.f4.length), j < i → IsOk n x.f4[j]) ∧ Aside0 (Below w0.heap.size w0 w') ∧ Aside0 (LeftAt w' g (L - 1 - sizes (x.f4.take i))) ∧ Aside0 (0 ≤ L - 1 - (sizes (x.f4.take i) : Int)))
            case atStart => exact ⟨0, Nat.zero_le _, by omega, rfl, ⟨fun j _ h => absurd h (by omega)⟩, ⟨HB.out⟩, ⟨by simpa [sizes] using HKS.out⟩, ⟨by simp [sizes]; omega⟩⟩
            case round =>
              obtain ⟨i, hi, hg2, rfl, HN, HW, HL, HP⟩ := hrel
              by_cases hlt : i < x.f4.length
              · obtain ⟨ad, G3, m3, G4, m4, e, g0, g1, g2, g3, g4, hk⟩ := kid_at HI0.out.g4 i hlt
                subst e
                have q0 := ck0 HW.out g0
                have q1 := ck0 HW.out g1
                have q2 := ck0 HW.out g2
                have q3 := ck0 HW.out g3
                have q4 := ck0 HW.out g4
                have hst := sizes_take x.f4 i hlt
                have hle := sizes_take_le x.f4 (i + 1)
                have hP := HP.out
                have hfr : w0.heap.size ≤ wr.heap.size := HW.out.size
                have HC := Lib.hid (IH.out x.f4[i] G3 m3 G4 m4 (d + 1) (L - 1 - (sizes (x.f4.take i) : Int)) g w0 (wr.alloc (.cells #[.int .i64 x.f4[i].f0, .string x.f4[i].f1, .int .i64 x.f4[i].f2, .slice G3 x.f4[i].f3.length m3, .slice G4 x.f4[i].f4.length m4] 34)) (by have := HD.out; omega) (by omega) hP (by omega) (kid_tot HT.out (List.getElem_mem hlt)) hk (below_step HW.out (below_new _ _)) hg (blk_below HL.out (below_new _ _)))
                have HST := Lib.hid hst
                have HLE := Lib.hid hle
                clear hk g0 g1 g2 g3 g4 hst hle hP hfr
                go_wp2_with fail
                refine HC.out.mono ?_
                intro e w1 hpost
                obtain ⟨b, rfl, hiff, hb1, hl1⟩ := hpost
                have HF := Lib.hid hiff
                have HB1 := Lib.hid hb1
                have HL1 := Lib.hid hl1
                clear hiff hb1 hl1
                cases b with
                | true =>
                  go_wp2_with fail
                  go_roundg (x.f4.length - (i + 1))
                  case measure => omega
                  case rel =>
                    have h1 := HST.out
                    have h2 := HF.out.1 (by simp)
                    have h3 := HL1.out (by simp)
                    refine ⟨i + 1, by omega, Nat.le_refl _, by go_num, ⟨fun j hj hji => ?_⟩, ⟨HB1.out⟩, ⟨?_⟩, ⟨by rw [h1]; omega⟩⟩
                    · rcases Nat.lt_or_ge j i with h | h
                      · exact HN.out j hj h
                      · obtain rfl : j = i := by omega
                        exact h2.1
                    · rw [h1, show L - 1 - ((sizes (x.f4.take i) + x.f4[i].size : Nat) : Int) = L - 1 - (sizes (x.f4.take i) : Int) - (x.f4[i].size : Int) from by omega]
                      exact h3
                | false =>
                  go_wp2_with fail
                  go_ret
                  refine okPost_no (fun h => ?_) HB1.out
                  have h1 := HF.out.2 ⟨((isOk3 K1.out K2.out).1 h.1).2.2.2.2 _ (List.getElem_mem hlt), by have h1 := HST.out; have h2 := HLE.out; have h3 := HSZ.out; have h4 := h.2; omega⟩
                  cases h1
              · obtain rfl : i = x.f4.length := by omega
                go_wp2_with fail
                go_ret
                have hsum : (x.size : Int) = 1 + (sizes x.f4 : Int) := by have := HSZ.out; omega
                have hP := HP.out
                have hL := HL.out
                rw [List.take_length] at hP hL
                refine okPost_yes ⟨(isOk3 K1.out K2.out).2 ⟨K3.out, H1.out, H2.out, H4.out, fun k hk => ?_⟩, by omega⟩ HW.out (by rw [show L - (x.size : Int) = L - 1 - (sizes x.f4 : Int) from by omega]; exact hL)
                obtain ⟨j, hj, rfl⟩ := List.getElem_of_mem hk
                exact HN.out j hj hj
          · have t5 : decide ((x.f3.length : Int) > 0) = true := decide_eq_true (by omega)
            have t5' : decide ((0 : Int) < (x.f3.length : Int)) = true := decide_eq_true (by omega)
            have t5'' : decide (0 < x.f3.length) = true := decide_eq_true (by omega)
            have H4 := Lib.hid h4
            clear h4
            go_wp2_with fail
            go_ret
            exact okPost_no (fun h => H4.out ((isOk3 K1.out K2.out).1 h.1).2.2.2.1) HB.out
        · have t4 : (x.f2 != 0) = true := by simpa using h2
          have H2 := Lib.hid h2
          clear h2
          go_wp2_with fail
          go_ret
          exact okPost_no (fun h => H2.out ((isOk3 K1.out K2.out).1 h.1).2.2.1) HB.out
      · have t3 : (x.f1.toList != []) = true := by rw [bne_iff_ne]; exact h1
        have t3' : (x.f1.toList == []) = false := by rw [beq_eq_false_iff_ne]; exact h1
        have H1 := Lib.hid h1
        clear h1
        go_wp2_with fail
        go_ret
        exact okPost_no (fun h => H1.out ((isOk3 K1.out K2.out).1 h.1).2.1) HB.out
    have e3 : (x.f0 == 3) = false := by simpa using k3
    have K3 := Lib.hid k3
    clear k3
    go_enter Try.func103, Try.ntmps103
    go_wp2_with fail
    go_ret
    exact okPost_no (fun h => K3.out ((isOk3 K1.out K2.out).1 h.1).1) HB.out
theorem implValid_any (x : Fm) (A3 : Option Addr) (c3 : Nat) (A4 : Option Addr) (c4 : Nat) (w : World) (hin : FmIn w x A3 c3 A4 c4) (ht : x.tot ≤ 1048576) :
    Calls Try.prog 72 #[.agg #[.int .i64 x.f0, .string x.f1, .int .i64 x.f2, .slice A3 x.f3.length c3, .slice A4 x.f4.length c4]] w (Ret w (.bool (pB (FmOk x)))) := by
  have hb := below_step (below_new w (.cells #[.int .i64 x.f0, .string x.f1, .int .i64 x.f2, .slice A3 x.f3.length c3, .slice A4 x.f4.length c4] 34)) (below_new _ (.cells #[.int .i64 400] 3))
  have hl := blk_new (w.alloc (.cells #[.int .i64 x.f0, .string x.f1, .int .i64 x.f2, .slice A3 x.f3.length c3, .slice A4 x.f4.length c4] 34)) (.cells #[.int .i64 400] 3)
  rw [show (w.alloc (.cells #[.int .i64 x.f0, .string x.f1, .int .i64 x.f2, .slice A3 x.f3.length c3, .slice A4 x.f4.length c4] 34)).heap.size = w.heap.size + 1 from by simp] at hl
  have HC := Lib.hid (formOk_any 40 x A3 c3 A4 c4 1 400 (w.heap.size + 1) w _ (by omega) (by omega) (by omega) (by omega) ht hin hb (by omega) hl)
  clear hin ht hb hl
  go_enter Try.func72, Try.ntmps72
  go_wp2_with fail
  refine HC.out.mono ?_
  intro e w1 hpost
  obtain ⟨b, rfl, hiff, hb1, hl1⟩ := hpost
  have hv : b = pB (FmOk x) := pB_of ⟨fun h => ⟨(hiff.1 h).1, by have := (hiff.1 h).2; omega⟩, fun h => hiff.2 ⟨h.1, by have := h.2; omega⟩⟩
  have HV := Lib.hid hv
  have HB1 := Lib.hid hb1
  clear hiff hb1 hl1 hv HC
  go_wp2_with fail
  go_ret
  exact ⟨ret_b HV.out, HB1.out⟩
end Go.Proofs.Ytlklclebjeeaaaa
end
section
namespace Go.Proofs.Ytlklclebjeeaaaa
open Go.RowKit Go.Proofs.YtlklclebjeeaaaaW.PrintWords Go.Proofs.YtlklclebjeeaaaaW.PrintLast Go.Proofs.YtlklclebjeeaaaaW.PrintMore
set_option linter.unusedVariables false
set_option linter.unusedSimpArgs false
def IsName (x : Fm) : Prop := x.f0 = 1 ∧ FmOk x
theorem isName_any (x : Fm) (A3 : Option Addr) (c3 : Nat) (A4 : Option Addr) (c4 : Nat) (w : World) (hin : FmIn w x A3 c3 A4 c4) (ht : x.tot ≤ 1048576) :
    Calls Try.prog 51 #[.agg #[.int .i64 x.f0, .string x.f1, .int .i64 x.f2, .slice A3 x.f3.length c3, .slice A4 x.f4.length c4]] w (Ret w (.bool (pB (IsName x)))) := by
  have HC := Lib.hid (implValid_any x A3 c3 A4 c4 _ (hin.below (below_new w (.cells #[.int .i64 x.f0, .string x.f1, .int .i64 x.f2, .slice A3 x.f3.length c3, .slice A4 x.f4.length c4] 34))) ht)
  have HB := Lib.hid (below_new w (.cells #[.int .i64 x.f0, .string x.f1, .int .i64 x.f2, .slice A3 x.f3.length c3, .slice A4 x.f4.length c4] 34))
  clear hin ht
  by_cases k1 : x.f0 = 1
  · have e1 : (x.f0 == 1) = true := by simpa using k1
    have K1 := Lib.hid k1
    clear k1
    go_enter Try.func51, Try.ntmps51
    go_wp2_with fail
    refine HC.out.mono ?_
    rintro e w1 ⟨rfl, hb1⟩
    generalize hE : pB (FmOk x) = E
    have HE := Lib.hid hE
    have HB1 := Lib.hid (below_step HB.out hb1)
    clear hE hb1
    go_wp2_with fail
    go_ret
    exact ⟨ret_b (pB_of (by rw [← HE.out, pB_iff]; exact ⟨fun h => ⟨K1.out, h⟩, fun h => h.2⟩)), HB1.out⟩
  · have e1 : (x.f0 == 1) = false := by simpa using k1
    have K1 := Lib.hid k1
    clear k1 HC
    go_enter Try.func51, Try.ntmps51
    go_wp2_with fail
    go_ret
    exact ⟨ret_b (pB_no (fun h => K1.out h.1)), HB.out⟩
def SmName (x y : Fm) : Prop := FmOk x ∧ FmOk y ∧ x.f0 = 1 ∧ x = y
end Go.Proofs.Ytlklclebjeeaaaa
end
section
namespace Go.Proofs.Ytlklclebjeeaaaa
open Go.RowKit Go.Proofs.YtlklclebjeeaaaaW.PrintWords Go.Proofs.YtlklclebjeeaaaaW.PrintLast Go.Proofs.YtlklclebjeeaaaaW.PrintMore
set_option linter.unusedVariables false
set_option linter.unusedSimpArgs false
/-- A form that may be the name of a variable of a pattern, or a literal. -/
def NmH (x : Fm) : Prop := IsName x ∧ x.f1.toList ≠ [46, 46, 46] ∧ x.f1.toList ≠ [95]
def HtOkN : Nat → Ht → Prop
  | 0, h => NmH h.f0 ∧ FmOk h.f2 ∧ h.f3 = []
  | n + 1, h => NmH h.f0 ∧ h.f2 = zFm ∧ h.f3.length ≤ 400 ∧ ∀ x, x ∈ h.f3 → x.f0 = h.f0 ∧ x.f1 = (n : Int) ∧ HtOkN n x
/-- A hit is well-formed. -/
def HtOk (h : Ht) : Prop := 0 ≤ h.f1 ∧ h.f1 ≤ 3 ∧ HtOkN h.f1.toNat h
theorem pB_false' {p : Prop} (h : pB p = false) : ¬ p := fun k => by rw [pB_iff.2 k] at h; cases h
theorem htOk_name {h : Ht} (k : HtOk h) : NmH h.f0 := by
  obtain ⟨_, _, k⟩ := k
  cases hn : h.f1.toNat with
  | zero => rw [hn] at k; exact k.1
  | succ n => rw [hn] at k; exact k.1
theorem htOk_0 {h : Ht} (e : h.f1 = 0) : HtOk h ↔ NmH h.f0 ∧ FmOk h.f2 ∧ h.f3 = [] := by
  unfold HtOk
  rw [e]
  show ((0 : Int) ≤ 0 ∧ (0 : Int) ≤ 3 ∧ HtOkN 0 h) ↔ _
  simp only [HtOkN]
  exact ⟨fun h => h.2.2, fun h => ⟨by omega, by omega, h⟩⟩
theorem htOk_s {h : Ht} (e : h.f1 ≠ 0) (h0 : 0 ≤ h.f1) (h3 : h.f1 ≤ 3) : HtOk h ↔ NmH h.f0 ∧ h.f2 = zFm ∧ h.f3.length ≤ 400 ∧ ∀ x, x ∈ h.f3 → x.f0 = h.f0 ∧ x.f1 = h.f1 - 1 ∧ HtOk x := by
  obtain ⟨n, hn⟩ : ∃ n : Nat, h.f1 = ((n + 1 : Nat) : Int) := ⟨h.f1.toNat - 1, by omega⟩
  unfold HtOk
  have e1 : h.f1.toNat = n + 1 := by omega
  rw [e1]
  simp only [HtOkN]
  constructor
  · rintro ⟨_, _, k1, k2, k4, k5⟩
    refine ⟨k1, k2, k4, fun x hx => ?_⟩
    obtain ⟨a, b, c⟩ := k5 x hx
    refine ⟨a, by omega, by omega, by omega, ?_⟩
    rw [b, Int.toNat_natCast]
    exact c
  · rintro ⟨k1, k2, k4, k5⟩
    refine ⟨h0, h3, k1, k2, k4, fun x hx => ?_⟩
    obtain ⟨a, b, _, _, c⟩ := k5 x hx
    have b' : x.f1 = (n : Int) := by omega
    refine ⟨a, b', ?_⟩
    rw [b', Int.toNat_natCast] at c
    exact c
theorem htTot {h x : Ht} (hx : x ∈ h.f3) : x.tot ≤ h.tot := by
  obtain ⟨i, hi, rfl⟩ := List.mem_iff_getElem.1 hx
  have h1 := totH_take h.f3 i hi
  have h2 := totH_append (h.f3.take (i + 1)) (h.f3.drop (i + 1))
  rw [List.take_append_drop] at h2
  have := h.tot_eq
  omega
theorem totH_mem {l : List Ht} {x : Ht} (hx : x ∈ l) : x.tot ≤ totH l := by
  obtain ⟨i, hi, rfl⟩ := List.mem_iff_getElem.1 hx
  have h1 := totH_take l i hi
  have h2 := totH_append (l.take (i + 1)) (l.drop (i + 1))
  rw [List.take_append_drop] at h2
  omega
set_option maxHeartbeats 2000000 in
theorem indexFuncH_any (xs : List Ht) (p : Ht → Bool) (g : Nat) (lb : Array Value) (eg : ∀ args w, (callFunc g args).run Try.prog w = .ok (.enter g args) w) (A : Option Addr) (c : Nat) (w : World) (hr : kH.C w A xs.length xs) (hc : xs.length ≤ c)
    (hp : ∀ x, x ∈ xs → ∀ (A3 : Option Addr) (Ac3 : Nat) (A4 : Option Addr) (Ac4 : Nat) (A9 : Option Addr) (Ac9 : Nat) (A10 : Option Addr) (Ac10 : Nat) (A11 : Option Addr) (Ac11 : Nat) (W : World), Below w.heap.size w W → HtIn W x A3 Ac3 A4 Ac4 A9 Ac9 A10 Ac10 A11 Ac11 → Calls Try.prog g (#[.agg #[.int .i64 x.f0.f0, .string x.f0.f1, .int .i64 x.f0.f2, .slice A3 x.f0.f3.length Ac3, .slice A4 x.f0.f4.length Ac4, .int .i64 x.f1, .int .i64 x.f2.f0, .string x.f2.f1, .int .i64 x.f2.f2, .slice A9 x.f2.f3.length Ac9, .slice A10 x.f2.f4.length Ac10, .slice A11 x.f3.length Ac11]] ++ lb) W (Ret W (.bool (p x)))) :
    Calls Try.prog 97 #[.slice A xs.length c, .func (.func g) #[] lb] w (Ret w (.int .i64 (fidx p xs))) := by
  have hmax := hr.2.1
  have HP := Lib.hid hp
  clear hp
  go_enter Try.func97, Try.ntmps97
  go_wp2_with fail
  go_loopg [5, 8] xs.length (fun kq v5 v8 w' => ∃ i : Nat, i ≤ xs.length ∧ xs.length - i ≤ kq ∧ v8 = .int .i64 i ∧ Aside0 (∀ j (h : j < xs.length), j < i → p xs[j] = false) ∧ Aside0 (Below w.heap.size w w'))
  case atStart => exact ⟨0, Nat.zero_le _, by omega, rfl, ⟨fun j _ h => absurd h (by omega)⟩, ⟨Below.refl _ _⟩⟩
  case round =>
    obtain ⟨i, hi, hg, rfl, HN, HW⟩ := hrel
    by_cases hlt : i < xs.length
    · obtain ⟨ad, X3, Xc3, X4, Xc4, X9, Xc9, X10, Xc10, X11, Xc11, e, hcl, hk⟩ := ht_at (Kd.C_below hr HW.out) i hlt
      subst e
      obtain ⟨g0, g1, g2, g3, g4, g5, g6, g7, g8, g9, g10, g11⟩ := ht_cells_at hcl
      have HC := Lib.hid (HP.out xs[i] (List.getElem_mem hlt) X3 Xc3 X4 Xc4 X9 Xc9 X10 Xc10 X11 Xc11 wr HW.out hk)
      clear hk hcl
      generalize hb : p xs[i] = b at HC
      have HB := Lib.hid hb
      clear hb
      cases b with
      | true =>
        go_wp2_with fail
        refine HC.out.mono ?_
        rintro e w1 ⟨rfl, hb1⟩
        clear g0 g1 g2 g3 g4 g5 g6 g7 g8 g9 g10 g11
        go_wp2_with fail
        go_ret
        exact ⟨ret_i (fidx_hit hlt HB.out (fun j hj => HN.out j _ hj)).symm, below_step HW.out hb1⟩
      | false =>
        go_wp2_with fail
        refine HC.out.mono ?_
        rintro e w1 ⟨rfl, hb1⟩
        clear g0 g1 g2 g3 g4 g5 g6 g7 g8 g9 g10 g11
        go_wp2_with fail
        go_roundg (xs.length - (i + 1))
        case measure => omega
        case rel =>
          refine ⟨i + 1, by omega, Nat.le_refl _, by go_num, ⟨fun j hj hji => ?_⟩, ⟨below_step HW.out hb1⟩⟩
          rcases Nat.lt_or_ge j i with h | h
          · exact HN.out j hj h
          · obtain rfl : j = i := by omega
            exact HB.out
    · obtain rfl : i = xs.length := by omega
      go_wp2_with fail
      go_ret
      exact ⟨ret_i (fidx_miss (fun j hj => HN.out j hj hj)).symm, HW.out⟩
theorem containsFuncH_any (xs : List Ht) (p : Ht → Bool) (g : Nat) (lb : Array Value) (eg : ∀ args w, (callFunc g args).run Try.prog w = .ok (.enter g args) w) (A : Option Addr) (c : Nat) (w : World) (hr : kH.C w A xs.length xs) (hc : xs.length ≤ c)
    (hp : ∀ x, x ∈ xs → ∀ (A3 : Option Addr) (Ac3 : Nat) (A4 : Option Addr) (Ac4 : Nat) (A9 : Option Addr) (Ac9 : Nat) (A10 : Option Addr) (Ac10 : Nat) (A11 : Option Addr) (Ac11 : Nat) (W : World), Below w.heap.size w W → HtIn W x A3 Ac3 A4 Ac4 A9 Ac9 A10 Ac10 A11 Ac11 → Calls Try.prog g (#[.agg #[.int .i64 x.f0.f0, .string x.f0.f1, .int .i64 x.f0.f2, .slice A3 x.f0.f3.length Ac3, .slice A4 x.f0.f4.length Ac4, .int .i64 x.f1, .int .i64 x.f2.f0, .string x.f2.f1, .int .i64 x.f2.f2, .slice A9 x.f2.f3.length Ac9, .slice A10 x.f2.f4.length Ac10, .slice A11 x.f3.length Ac11]] ++ lb) W (Ret W (.bool (p x)))) :
    Calls Try.prog 95 #[.slice A xs.length c, .func (.func g) #[] lb] w (Ret w (.bool (xs.any p))) := by
  have HD := Lib.hid (fidx_any p xs)
  have HC := Lib.hid (indexFuncH_any xs p g lb eg A c w hr hc hp)
  clear hr hc hp
  generalize fidx p xs = r at HD HC
  go_enter Try.func95, Try.ntmps95
  go_wp2_with fail
  refine HC.out.mono ?_
  rintro e w1 ⟨rfl, hb1⟩
  go_wp2_with fail
  go_ret
  exact ⟨ret_b HD.out, hb1⟩
def HitOkC (h : Ht) : Prop := ∀ (A3 : Option Addr) (Ac3 : Nat) (A4 : Option Addr) (Ac4 : Nat) (A9 : Option Addr) (Ac9 : Nat) (A10 : Option Addr) (Ac10 : Nat) (A11 : Option Addr) (Ac11 : Nat) (w : World), HtIn w h A3 Ac3 A4 Ac4 A9 Ac9 A10 Ac10 A11 Ac11 → h.tot ≤ 1048576 → Calls Try.prog 69 #[.agg #[.int .i64 h.f0.f0, .string h.f0.f1, .int .i64 h.f0.f2, .slice A3 h.f0.f3.length Ac3, .slice A4 h.f0.f4.length Ac4, .int .i64 h.f1, .int .i64 h.f2.f0, .string h.f2.f1, .int .i64 h.f2.f2, .slice A9 h.f2.f3.length Ac9, .slice A10 h.f2.f4.length Ac10, .slice A11 h.f3.length Ac11]] w (Ret w (.bool (pB (HtOk h))))
set_option maxHeartbeats 4000000 in
set_option maxRecDepth 100000 in
theorem hitOk1_any (x h : Ht) (hok : HitOkC x) (A3 : Option Addr) (Ac3 : Nat) (A4 : Option Addr) (Ac4 : Nat) (A9 : Option Addr) (Ac9 : Nat) (A10 : Option Addr) (Ac10 : Nat) (A11 : Option Addr) (Ac11 : Nat) (B3 : Option Addr) (Bc3 : Nat) (B4 : Option Addr) (Bc4 : Nat) (B9 : Option Addr) (Bc9 : Nat) (B10 : Option Addr) (Bc10 : Nat) (B11 : Option Addr) (Bc11 : Nat) (g : Nat) (w : World) (hx : HtIn w x A3 Ac3 A4 Ac4 A9 Ac9 A10 Ac10 A11 Ac11) (hh : HtIn w h B3 Bc3 B4 Bc4 B9 Bc9 B10 Bc10 B11 Bc11) (hg : w.heap[g]? = some (.cells #[.int .i64 h.f0.f0, .string h.f0.f1, .int .i64 h.f0.f2, .slice B3 h.f0.f3.length Bc3, .slice B4 h.f0.f4.length Bc4, .int .i64 h.f1, .int .i64 h.f2.f0, .string h.f2.f1, .int .i64 h.f2.f2, .slice B9 h.f2.f3.length Bc9, .slice B10 h.f2.f4.length Bc10, .slice B11 h.f3.length Bc11] 80 (0, 0))) (h0 : h.f1 ≠ 0) (h1 : 0 ≤ h.f1) (h3 : h.f1 ≤ 3) (ht : x.tot ≤ 1048576) :
    Calls Try.prog 96 #[.agg #[.int .i64 x.f0.f0, .string x.f0.f1, .int .i64 x.f0.f2, .slice A3 x.f0.f3.length Ac3, .slice A4 x.f0.f4.length Ac4, .int .i64 x.f1, .int .i64 x.f2.f0, .string x.f2.f1, .int .i64 x.f2.f2, .slice A9 x.f2.f3.length Ac9, .slice A10 x.f2.f4.length Ac10, .slice A11 x.f3.length Ac11], .pointer (some ⟨g, 0, none⟩)] w (Ret w (.bool (!pB (x.f0 = h.f0 ∧ x.f1 = h.f1 - 1 ∧ HtOk x)))) := by
  have HB := Lib.hid (below_new w (.cells #[.int .i64 x.f0.f0, .string x.f0.f1, .int .i64 x.f0.f2, .slice A3 x.f0.f3.length Ac3, .slice A4 x.f0.f4.length Ac4, .int .i64 x.f1, .int .i64 x.f2.f0, .string x.f2.f1, .int .i64 x.f2.f2, .slice A9 x.f2.f3.length Ac9, .slice A10 x.f2.f4.length Ac10, .slice A11 x.f3.length Ac11] 80))
  have HA := Lib.hid (blk_new w (.cells #[.int .i64 x.f0.f0, .string x.f0.f1, .int .i64 x.f0.f2, .slice A3 x.f0.f3.length Ac3, .slice A4 x.f0.f4.length Ac4, .int .i64 x.f1, .int .i64 x.f2.f0, .string x.f2.f1, .int .i64 x.f2.f2, .slice A9 x.f2.f3.length Ac9, .slice A10 x.f2.f4.length Ac10, .slice A11 x.f3.length Ac11] 80))
  have HBx := Lib.hid (blk_below hg HB.out)
  have HN := Lib.hid (fun W hb => implSame_any x.f0 h.f0 A3 Ac3 A4 Ac4 B3 Bc3 B4 Bc4 W (hx.n.below hb) (hh.n.below hb))
  have HK := Lib.hid (fun W hb => hok A3 Ac3 A4 Ac4 A9 Ac9 A10 Ac10 A11 Ac11 W (hx.below hb) ht)
  have hsub : wrap64 (h.f1 - 1) = h.f1 - 1 := Go.IntWalk.wrap64_in _ ⟨by omega, by omega⟩
  have HS := Lib.hid hsub
  clear hx hh hg hok h0 h1 h3 hsub
  obtain ⟨p0, p1, p2, p3, p4, p5, p6, p7, p8, p9, p10, p11⟩ := ht_cells HA.out
  obtain ⟨q0, q1, q2, q3, q4, q5, q6, q7, q8, q9, q10, q11⟩ := ht_cells HBx.out
  go_enter Try.func96, Try.ntmps96
  go_wp2_with fail
  refine (HN.out _ HB.out).mono ?_
  rintro e w1 ⟨rfl, b⟩
  replace HA := Lib.hid (blk_below HA.out b)
  replace HBx := Lib.hid (blk_below HBx.out b)
  replace HB := Lib.hid (below_step HB.out b)
  clear b p0 p1 p2 p3 p4 p5 p6 p7 p8 p9 p10 p11 q0 q1 q2 q3 q4 q5 q6 q7 q8 q9 q10 q11
  by_cases e1 : x.f0 = h.f0
  rotate_left
  · rw [← eqB_no e1]
    have E := Lib.hid e1
    clear e1
    go_wp2_with fail
    go_ret
    exact ⟨ret_b (by rw [← pB_no (fun k => E.out k.1)]; rfl), HB.out⟩
  rw [← eqB_yes e1]
  have E1 := Lib.hid e1
  clear e1
  obtain ⟨p0, p1, p2, p3, p4, p5, p6, p7, p8, p9, p10, p11⟩ := ht_cells HA.out
  obtain ⟨q0, q1, q2, q3, q4, q5, q6, q7, q8, q9, q10, q11⟩ := ht_cells HBx.out
  by_cases e2 : x.f1 = h.f1 - 1
  rotate_left
  · have t2 : (x.f1 == wrap64 (h.f1 - 1)) = false := by rw [HS.out]; simpa using e2
    have t2' : (x.f1 != wrap64 (h.f1 - 1)) = true := by rw [HS.out]; simpa using e2
    have E := Lib.hid e2
    clear e2
    go_wp2_with fail
    go_ret
    exact ⟨ret_b (by rw [← pB_no (fun k => E.out k.2.1)]; rfl), HB.out⟩
  have t2 : (x.f1 == wrap64 (h.f1 - 1)) = true := by rw [HS.out]; simpa using e2
  have t2' : (x.f1 != wrap64 (h.f1 - 1)) = false := by rw [HS.out]; simpa using e2
  have E2 := Lib.hid e2
  clear e2
  go_wp2_with fail
  refine (HK.out _ HB.out).mono ?_
  rintro e w2 ⟨rfl, b⟩
  replace HA := Lib.hid (blk_below HA.out b)
  replace HBx := Lib.hid (blk_below HBx.out b)
  replace HB := Lib.hid (below_step HB.out b)
  clear b p0 p1 p2 p3 p4 p5 p6 p7 p8 p9 p10 p11 q0 q1 q2 q3 q4 q5 q6 q7 q8 q9 q10 q11
  cases hz : pB (HtOk x) with
  | true =>
    have HZ := Lib.hid (pB_iff.1 hz)
    clear hz
    go_wp2_with fail
    go_ret
    exact ⟨ret_b (by rw [pB_iff.2 ⟨E1.out, E2.out, HZ.out⟩]; rfl), HB.out⟩
  | false =>
    have HZ := Lib.hid (pB_false' hz)
    clear hz
    go_wp2_with fail
    go_ret
    exact ⟨ret_b (by rw [← pB_no (fun k => HZ.out k.2.2)]; rfl), HB.out⟩
set_option maxHeartbeats 8000000 in
set_option maxRecDepth 100000 in
theorem hitOk_any (h : Ht) : HitOkC h := by
  have eg : ∀ args w, (callFunc 96 args).run Try.prog w = .ok (.enter 96 args) w := enters_of Try.func96 (by kernel_rfl) rfl
  induction h using Ht.ind with
  | h h ih =>
    intro A3 Ac3 A4 Ac4 A9 Ac9 A10 Ac10 A11 Ac11 w hx ht
    have hte := h.tot_eq
    have HB := Lib.hid (below_new w (.cells #[.int .i64 h.f0.f0, .string h.f0.f1, .int .i64 h.f0.f2, .slice A3 h.f0.f3.length Ac3, .slice A4 h.f0.f4.length Ac4, .int .i64 h.f1, .int .i64 h.f2.f0, .string h.f2.f1, .int .i64 h.f2.f2, .slice A9 h.f2.f3.length Ac9, .slice A10 h.f2.f4.length Ac10, .slice A11 h.f3.length Ac11] 80))
    have HA := Lib.hid (blk_new w (.cells #[.int .i64 h.f0.f0, .string h.f0.f1, .int .i64 h.f0.f2, .slice A3 h.f0.f3.length Ac3, .slice A4 h.f0.f4.length Ac4, .int .i64 h.f1, .int .i64 h.f2.f0, .string h.f2.f1, .int .i64 h.f2.f2, .slice A9 h.f2.f3.length Ac9, .slice A10 h.f2.f4.length Ac10, .slice A11 h.f3.length Ac11] 80))
    have HN := Lib.hid (fun W hb => isName_any h.f0 A3 Ac3 A4 Ac4 W (hx.n.below hb) (by omega))
    have HV := Lib.hid (fun W hb => implValid_any h.f2 A9 Ac9 A10 Ac10 W (hx.o.below hb) (by omega))
    have HO : Hid (∀ W, Below w.heap.size w W → Calls Try.prog 94 #[.agg #[.int .i64 h.f2.f0, .string h.f2.f1, .int .i64 h.f2.f2, .slice A9 h.f2.f3.length Ac9, .slice A10 h.f2.f4.length Ac10], .agg #[.int .i64 0, .string ⟨#[]⟩, .int .i64 0, .slice none 0 0, .slice none 0 0]] W (Ret W (.bool (eqB h.f2 zFm)))) :=
      Lib.hid (fun W hb => implSame_any h.f2 zFm A9 Ac9 A10 Ac10 none 0 none 0 W (hx.o.below hb) ⟨Nat.le_refl _, Kd.C_nil _ _, Nat.le_refl _, Kd.C_nil _ _⟩)
    have HC := Lib.hid (fun W (hb : Below w.heap.size w W) (hA : W.heap[w.heap.size]? = some (.cells #[.int .i64 h.f0.f0, .string h.f0.f1, .int .i64 h.f0.f2, .slice A3 h.f0.f3.length Ac3, .slice A4 h.f0.f4.length Ac4, .int .i64 h.f1, .int .i64 h.f2.f0, .string h.f2.f1, .int .i64 h.f2.f2, .slice A9 h.f2.f3.length Ac9, .slice A10 h.f2.f4.length Ac10, .slice A11 h.f3.length Ac11] 80 (0, 0))) (h0 : h.f1 ≠ 0) (h1 : 0 ≤ h.f1) (h3 : h.f1 ≤ 3) =>
      containsFuncH_any h.f3 (fun x => !pB (x.f0 = h.f0 ∧ x.f1 = h.f1 - 1 ∧ HtOk x)) 96 #[.pointer (some ⟨w.heap.size, 0, none⟩)] eg A11 Ac11 W (Kd.C_below hx.gm hb) hx.lm
        (fun x hxm X3 Xc3 X4 Xc4 X9 Xc9 X10 Xc10 X11 Xc11 V hv hxi => hitOk1_any x h (ih x hxm) X3 Xc3 X4 Xc4 X9 Xc9 X10 Xc10 X11 Xc11 A3 Ac3 A4 Ac4 A9 Ac9 A10 Ac10 A11 Ac11 w.heap.size V hxi (hx.below (below_step hb hv)) (blk_below hA hv) h0 h1 h3 (Nat.le_trans (htTot hxm) ht)))
    have H0 := Lib.hid (@htOk_0 h)
    have H1 := Lib.hid (@htOk_s h)
    have EG := Lib.hid eg
    clear hx ih ht hte eg
    obtain ⟨p0, p1, p2, p3, p4, p5, p6, p7, p8, p9, p10, p11⟩ := ht_cells HA.out
    go_enter Try.func69, Try.ntmps69
    go_wp2_with fail
    refine (HN.out _ HB.out).mono ?_
    rintro e w1 ⟨rfl, b⟩
    replace HA := Lib.hid (blk_below HA.out b)
    replace HB := Lib.hid (below_step HB.out b)
    clear b p0 p1 p2 p3 p4 p5 p6 p7 p8 p9 p10 p11
    obtain ⟨p0, p1, p2, p3, p4, p5, p6, p7, p8, p9, p10, p11⟩ := ht_cells HA.out
    cases hn : pB (IsName h.f0) with
    | false =>
      have E := Lib.hid (pB_false' hn)
      clear hn
      go_wp2_with fail
      go_ret
      exact ⟨ret_b (pB_no (fun k => E.out (htOk_name k).1)), HB.out⟩
    | true =>
    have E0 := Lib.hid (pB_iff.1 hn)
    clear hn
    by_cases e1 : h.f0.f1.toList = [46, 46, 46]
    · have t1 : (h.f0.f1.toList == [46, 46, 46]) = true := by simpa using e1
      have E := Lib.hid e1
      clear e1
      go_wp2_with fail
      go_ret
      exact ⟨ret_b (pB_no (fun k => (htOk_name k).2.1 E.out)), HB.out⟩
    have t1 : (h.f0.f1.toList == [46, 46, 46]) = false := by simpa using e1
    have E1 := Lib.hid e1
    clear e1
    by_cases e2 : h.f0.f1.toList = [95]
    · have t2 : (h.f0.f1.toList == [95]) = true := by simpa using e2
      have E := Lib.hid e2
      clear e2
      go_wp2_with fail
      go_ret
      exact ⟨ret_b (pB_no (fun k => (htOk_name k).2.2 E.out)), HB.out⟩
    have t2 : (h.f0.f1.toList == [95]) = false := by simpa using e2
    have NM : Hid (NmH h.f0) := Lib.hid ⟨E0.out, E1.out, e2⟩
    clear e2 E0 E1
    go_wp2_with fail
    refine (within_any _ _ _ _).mono ?_
    rintro e w2 ⟨rfl, b⟩
    replace HA := Lib.hid (blk_below HA.out b)
    replace HB := Lib.hid (below_step HB.out b)
    clear b p0 p1 p2 p3 p4 p5 p6 p7 p8 p9 p10 p11
    obtain ⟨p0, p1, p2, p3, p4, p5, p6, p7, p8, p9, p10, p11⟩ := ht_cells HA.out
    by_cases e3 : 0 ≤ h.f1 ∧ h.f1 ≤ 3
    rotate_left
    · rw [decide_eq_false e3]
      have E := Lib.hid e3
      clear e3
      go_wp2_with fail
      go_ret
      exact ⟨ret_b (pB_no (fun k => E.out ⟨k.1, k.2.1⟩)), HB.out⟩
    rw [decide_eq_true e3]
    have R := Lib.hid e3
    clear e3
    by_cases ez : h.f1 = 0
    · have tz : (h.f1 == 0) = true := by simpa using ez
      have HI := Lib.hid (H0.out ez)
      clear ez H0 H1
      go_wp2_with fail
      refine (HV.out _ HB.out).mono ?_
      rintro e w3 ⟨rfl, b⟩
      replace HA := Lib.hid (blk_below HA.out b)
      replace HB := Lib.hid (below_step HB.out b)
      clear b p0 p1 p2 p3 p4 p5 p6 p7 p8 p9 p10 p11
      obtain ⟨p0, p1, p2, p3, p4, p5, p6, p7, p8, p9, p10, p11⟩ := ht_cells HA.out
      cases hv : pB (FmOk h.f2) with
      | false =>
        have E := Lib.hid (pB_false' hv)
        clear hv
        go_wp2_with fail
        go_ret
        exact ⟨ret_b (pB_no (fun k => E.out (HI.out.1 k).2.1)), HB.out⟩
      | true =>
        have E := Lib.hid (pB_iff.1 hv)
        clear hv
        by_cases hl : h.f3 = []
        · have tl : ((h.f3.length : Int) == 0) = true := by simp [hl]
          have tl' : (h.f3.length == 0) = true := by simp [hl]
          have EL := Lib.hid hl
          clear hl
          go_wp2_with fail
          go_ret
          exact ⟨ret_b (pB_yes (HI.out.2 ⟨NM.out, E.out, EL.out⟩)), HB.out⟩
        · have hpos := List.length_pos_iff.2 hl
          have tl : ((h.f3.length : Int) == 0) = false := beq_eq_false_iff_ne.mpr (by omega)
          have tl' : (h.f3.length == 0) = false := beq_eq_false_iff_ne.mpr (by omega)
          have EL := Lib.hid hl
          clear hl hpos
          go_wp2_with fail
          go_ret
          exact ⟨ret_b (pB_no (fun k => EL.out (HI.out.1 k).2.2)), HB.out⟩
    have tz : (h.f1 == 0) = false := by simpa using ez
    have HI := Lib.hid (H1.out ez R.out.1 R.out.2)
    replace HC := Lib.hid (fun W hb hA => HC.out W hb hA ez R.out.1 R.out.2)
    clear ez H0 H1
    go_wp2_with fail
    refine (HO.out _ HB.out).mono ?_
    rintro e w3 ⟨rfl, b⟩
    replace HA := Lib.hid (blk_below HA.out b)
    replace HB := Lib.hid (below_step HB.out b)
    clear b p0 p1 p2 p3 p4 p5 p6 p7 p8 p9 p10 p11
    obtain ⟨p0, p1, p2, p3, p4, p5, p6, p7, p8, p9, p10, p11⟩ := ht_cells HA.out
    by_cases e4 : h.f2 = zFm
    rotate_left
    · rw [← eqB_no e4]
      have E := Lib.hid e4
      clear e4
      go_wp2_with fail
      go_ret
      exact ⟨ret_b (pB_no (fun k => E.out (HI.out.1 k).2.1)), HB.out⟩
    rw [← eqB_yes e4]
    have E4 := Lib.hid e4
    clear e4
    by_cases e5 : h.f3.length ≤ 400
    rotate_left
    · have t5 : decide ((h.f3.length : Int) ≤ 400) = false := decide_eq_false (by omega)
      have t5' : decide (h.f3.length ≤ 400) = false := decide_eq_false e5
      have E := Lib.hid e5
      clear e5
      go_wp2_with fail
      go_ret
      exact ⟨ret_b (pB_no (fun k => E.out (HI.out.1 k).2.2.1)), HB.out⟩
    have t5 : decide ((h.f3.length : Int) ≤ 400) = true := decide_eq_true (by omega)
    have t5' : decide (h.f3.length ≤ 400) = true := decide_eq_true e5
    have E5 := Lib.hid e5
    clear e5
    go_wp2_with fail
    refine (HC.out _ HB.out HA.out).mono ?_
    rintro e w4 ⟨rfl, b⟩
    replace HA := Lib.hid (blk_below HA.out b)
    replace HB := Lib.hid (below_step HB.out b)
    clear b p0 p1 p2 p3 p4 p5 p6 p7 p8 p9 p10 p11
    cases hz : h.f3.any (fun x => !pB (x.f0 = h.f0 ∧ x.f1 = h.f1 - 1 ∧ HtOk x)) with
    | false =>
      have E6 : Hid (∀ x, x ∈ h.f3 → x.f0 = h.f0 ∧ x.f1 = h.f1 - 1 ∧ HtOk x) := Lib.hid (fun x hx => by
        rw [List.any_eq_false] at hz
        have := hz x hx
        rw [Bool.not_eq_true', Bool.not_eq_false] at this
        exact pB_iff.1 this)
      clear hz
      go_wp2_with fail
      go_ret
      exact ⟨ret_b (pB_yes (HI.out.2 ⟨NM.out, E4.out, E5.out, E6.out⟩)), HB.out⟩
    | true =>
      have E6 : Hid (¬ ∀ x, x ∈ h.f3 → x.f0 = h.f0 ∧ x.f1 = h.f1 - 1 ∧ HtOk x) := Lib.hid (fun k => by
        rw [List.any_eq_true] at hz
        obtain ⟨x, hx, he⟩ := hz
        rw [pB_iff.2 (k x hx)] at he
        cases he)
      clear hz
      go_wp2_with fail
      go_ret
      exact ⟨ret_b (pB_no (fun k => E6.out (HI.out.1 k).2.2.2)), HB.out⟩
set_option maxHeartbeats 2000000 in
theorem hitAt1_any (x : Ht) (y : Fm) (A3 : Option Addr) (Ac3 : Nat) (A4 : Option Addr) (Ac4 : Nat) (A9 : Option Addr) (Ac9 : Nat) (A10 : Option Addr) (Ac10 : Nat) (A11 : Option Addr) (Ac11 : Nat) (B3 : Option Addr) (Bc3 : Nat) (B4 : Option Addr) (Bc4 : Nat) (g : Nat) (w : World) (hx : HtIn w x A3 Ac3 A4 Ac4 A9 Ac9 A10 Ac10 A11 Ac11) (hy : FmIn w y B3 Bc3 B4 Bc4) (hg : w.heap[g]? = some (.cells #[.int .i64 y.f0, .string y.f1, .int .i64 y.f2, .slice B3 y.f3.length Bc3, .slice B4 y.f4.length Bc4] 34 (0, 0))) :
    Calls Try.prog 98 #[.agg #[.int .i64 x.f0.f0, .string x.f0.f1, .int .i64 x.f0.f2, .slice A3 x.f0.f3.length Ac3, .slice A4 x.f0.f4.length Ac4, .int .i64 x.f1, .int .i64 x.f2.f0, .string x.f2.f1, .int .i64 x.f2.f2, .slice A9 x.f2.f3.length Ac9, .slice A10 x.f2.f4.length Ac10, .slice A11 x.f3.length Ac11], .pointer (some ⟨g, 0, none⟩)] w (Ret w (.bool (eqB x.f0 y))) := by
  have HB := Lib.hid (below_new w (.cells #[.int .i64 x.f0.f0, .string x.f0.f1, .int .i64 x.f0.f2, .slice A3 x.f0.f3.length Ac3, .slice A4 x.f0.f4.length Ac4, .int .i64 x.f1, .int .i64 x.f2.f0, .string x.f2.f1, .int .i64 x.f2.f2, .slice A9 x.f2.f3.length Ac9, .slice A10 x.f2.f4.length Ac10, .slice A11 x.f3.length Ac11] 80))
  have HA := Lib.hid (blk_new w (.cells #[.int .i64 x.f0.f0, .string x.f0.f1, .int .i64 x.f0.f2, .slice A3 x.f0.f3.length Ac3, .slice A4 x.f0.f4.length Ac4, .int .i64 x.f1, .int .i64 x.f2.f0, .string x.f2.f1, .int .i64 x.f2.f2, .slice A9 x.f2.f3.length Ac9, .slice A10 x.f2.f4.length Ac10, .slice A11 x.f3.length Ac11] 80))
  have HBx := Lib.hid (blk_below hg HB.out)
  have HN := Lib.hid (fun W hb => implSame_any x.f0 y A3 Ac3 A4 Ac4 B3 Bc3 B4 Bc4 W (hx.n.below hb) (hy.below hb))
  clear hx hy hg
  obtain ⟨p0, p1, p2, p3, p4, p5, p6, p7, p8, p9, p10, p11⟩ := ht_cells HA.out
  obtain ⟨q0, q1, q2, q3, q4⟩ := fm_cells HBx.out
  go_enter Try.func98, Try.ntmps98
  go_wp2_with fail
  refine (HN.out _ HB.out).mono ?_
  rintro e w1 ⟨rfl, b⟩
  have HB2 := Lib.hid (below_step HB.out b)
  clear b p0 p1 p2 p3 p4 p5 p6 p7 p8 p9 p10 p11 q0 q1 q2 q3 q4
  go_wp2_with fail
  go_ret
  exact ⟨rfl, HB2.out⟩
set_option maxHeartbeats 2000000 in
theorem hitAt_any (xs : List Ht) (A : Option Addr) (c : Nat) (y : Fm) (B3 : Option Addr) (Bc3 : Nat) (B4 : Option Addr) (Bc4 : Nat) (w : World) (hr : kH.C w A xs.length xs) (hc : xs.length ≤ c) (hy : FmIn w y B3 Bc3 B4 Bc4) :
    Calls Try.prog 70 #[.slice A xs.length c, .agg #[.int .i64 y.f0, .string y.f1, .int .i64 y.f2, .slice B3 y.f3.length Bc3, .slice B4 y.f4.length Bc4]] w (Ret w (.int .i64 (fidx (fun x => eqB x.f0 y) xs))) := by
  have eg : ∀ args w, (callFunc 98 args).run Try.prog w = .ok (.enter 98 args) w := enters_of Try.func98 (by kernel_rfl) rfl
  have hb := below_new w (.cells #[.int .i64 y.f0, .string y.f1, .int .i64 y.f2, .slice B3 y.f3.length Bc3, .slice B4 y.f4.length Bc4] 34)
  have hk := blk_new w (.cells #[.int .i64 y.f0, .string y.f1, .int .i64 y.f2, .slice B3 y.f3.length Bc3, .slice B4 y.f4.length Bc4] 34)
  have HC := Lib.hid (indexFuncH_any xs (fun x => eqB x.f0 y) 98 #[.pointer (some ⟨w.heap.size, 0, none⟩)] eg A c _ (Kd.C_below hr hb) hc
    (fun x hxm X3 Xc3 X4 Xc4 X9 Xc9 X10 Xc10 X11 Xc11 V hv hxi => hitAt1_any x y X3 Xc3 X4 Xc4 X9 Xc9 X10 Xc10 X11 Xc11 B3 Bc3 B4 Bc4 w.heap.size V hxi (hy.below (below_step hb hv)) (blk_below hk hv)))
  have HB := Lib.hid hb
  clear hr hb hk eg
  go_enter Try.func70, Try.ntmps70
  go_wp2_with fail
  refine HC.out.mono ?_
  rintro e w1 ⟨rfl, b⟩
  have HB2 := Lib.hid (below_step HB.out b)
  clear b
  go_wp2_with fail
  go_ret
  exact ⟨rfl, HB2.out⟩
end Go.Proofs.Ytlklclebjeeaaaa
end
section
namespace Go.Proofs.Ytlklclebjeeaaaa
open Go.RowKit Go.Proofs.YtlklclebjeeaaaaW.PrintWords
set_option linter.unusedVariables false
theorem Ev.some {α : Type} {o : Option α} {r : α} (h : o = some r) : Ev (fun _ => o) r := ⟨0, fun _ _ => h⟩
theorem Ev.pos {α : Type} {c : Prop} [Decidable c] {a b : Nat → Option α} {r : α} (h : c) (e : Ev a r) : Ev (fun k => if c then a k else b k) r := by
  simp only [if_pos h]; exact e
theorem Ev.neg {α : Type} {c : Prop} [Decidable c] {a b : Nat → Option α} {r : α} (h : ¬ c) (e : Ev b r) : Ev (fun k => if c then a k else b k) r := by
  simp only [if_neg h]; exact e
theorem wr1 (i : Nat) (h : i < 4611686018427387904) : wrap64 ((i : Int) + 1) = ((i + 1 : Nat) : Int) := by
  rw [Go.IntWalk.wrap64_in _ ⟨by omega, by omega⟩]; omega
end Go.Proofs.Ytlklclebjeeaaaa
end
section
namespace Go.Proofs.Ytlklclebjeeaaaa
open Go.RowKit Go.Proofs.YtlklclebjeeaaaaW.PrintWords
set_option linter.unusedVariables false
/-- A loop that goes on while P holds. -/
theorem ev_all {R : Type} {L : Nat → Nat → Option R} (P : Nat → Prop) (N : Nat) (rT rF : R)
    (hs : ∀ i, i < N → P i → ∀ r, Ev (fun k => L k (i + 1)) r → Ev (fun k => L k i) r) (hf : ∀ i, i < N → ¬ P i → Ev (fun k => L k i) rF) (he : Ev (fun k => L k N) rT) :
    ((∀ i, i < N → P i) → Ev (fun k => L k 0) rT) ∧ ((¬ ∀ i, i < N → P i) → Ev (fun k => L k 0) rF) := by
  have key : ∀ m i, i + m = N → ((∀ j, i ≤ j → j < N → P j) → Ev (fun k => L k i) rT) ∧ ((¬ ∀ j, i ≤ j → j < N → P j) → Ev (fun k => L k i) rF) := by
    intro m
    induction m with
    | zero =>
      intro i hi
      obtain rfl : i = N := by omega
      exact ⟨fun _ => he, fun h => absurd (fun j h1 h2 => absurd h2 (by omega)) h⟩
    | succ m ih =>
      intro i hi
      obtain ⟨h1, h2⟩ := ih (i + 1) (by omega)
      by_cases hp : P i
      · refine ⟨fun h => hs i (by omega) hp _ (h1 (fun j ha hb => h j (by omega) hb)), fun h => hs i (by omega) hp _ (h2 (fun k => h (fun j ha hb => ?_)))⟩
        by_cases e : j = i
        · rw [e]; exact hp
        · exact k j (by omega) hb
      · exact ⟨fun h => absurd (h i (Nat.le_refl _) (by omega)) hp, fun _ => hf i (by omega) hp⟩
  obtain ⟨h1, h2⟩ := key N 0 (by omega)
  exact ⟨fun h => h1 (fun j _ hj => h j hj), fun h => h2 (fun k => h (fun j hj => k j (Nat.zero_le _) hj))⟩
end Go.Proofs.Ytlklclebjeeaaaa
end
section
namespace Go.Proofs.Ytlklclebjeeaaaa.Q
open Go.RowKit Go.Proofs.YtlklclebjeeaaaaW.PrintWords Go.Proofs.YtlklclebjeeaaaaW.PrintLast Go.Proofs.YtlklclebjeeaaaaW.PrintMore
set_option linter.unusedVariables false
set_option linter.unusedSimpArgs false

noncomputable def spec_FormSame.f (a0_0 : Int) (a0_1 : ByteArray) (a0_2 : Int) (l0_3 : List Int) (l0_4 : List (S34)) (a1_0 : Int) (a1_1 : ByteArray) (a1_2 : Int) (l1_3 : List Int) (l1_4 : List (S34)) : Option (Bool) := some (eqB (⟨a0_0, a0_1, a0_2, l0_3, l0_4⟩ : Fm) (⟨a1_0, a1_1, a1_2, l1_3, l1_4⟩ : Fm))
set_option maxRecDepth 100000 in
theorem spec_FormSame.calls (a0_0 : Int) (a0_1 : ByteArray) (a0_2 : Int) (A0_3 : Option Addr) (c0_3 : Nat) (l0_3 : List Int) (A0_4 : Option Addr) (c0_4 : Nat) (l0_4 : List (S34)) (a1_0 : Int) (a1_1 : ByteArray) (a1_2 : Int) (A1_3 : Option Addr) (c1_3 : Nat) (l1_3 : List Int) (A1_4 : Option Addr) (c1_4 : Nat) (l1_4 : List (S34)) (r : Bool) (w : World) (hr0_3 : Kd.C (Kd.int .i64) w A0_3 l0_3.length l0_3) (hc0_3 : l0_3.length ≤ c0_3) (hr0_4 : Kd.C k34 w A0_4 l0_4.length l0_4) (hc0_4 : l0_4.length ≤ c0_4) (hr1_3 : Kd.C (Kd.int .i64) w A1_3 l1_3.length l1_3) (hc1_3 : l1_3.length ≤ c1_3) (hr1_4 : Kd.C k34 w A1_4 l1_4.length l1_4) (hc1_4 : l1_4.length ≤ c1_4) (h : spec_FormSame.f a0_0 a0_1 a0_2 l0_3 l0_4 a1_0 a1_1 a1_2 l1_3 l1_4 = some r) :
    Calls Try.prog 63 #[.agg #[.int .i64 a0_0, .string a0_1, .int .i64 a0_2, .slice A0_3 l0_3.length c0_3, .slice A0_4 l0_4.length c0_4], .agg #[.int .i64 a1_0, .string a1_1, .int .i64 a1_2, .slice A1_3 l1_3.length c1_3, .slice A1_4 l1_4.length c1_4]] w fun e w' => e = .returned (.bool r) ∧ Below w.heap.size w w' := by
  obtain rfl := Option.some.inj h
  exact specSame_any (⟨a0_0, a0_1, a0_2, l0_3, l0_4⟩ : Fm) (⟨a1_0, a1_1, a1_2, l1_3, l1_4⟩ : Fm) A0_3 c0_3 A0_4 c0_4 A1_3 c1_3 A1_4 c1_4 w ⟨hc0_3, hr0_3, hc0_4, hr0_4⟩ ⟨hc1_3, hr1_3, hc1_4, hr1_4⟩

noncomputable def spec_FormValid.f (a0_0 : Int) (a0_1 : ByteArray) (a0_2 : Int) (l0_3 : List Int) (l0_4 : List (S34)) : Option (Bool) := gIf ((⟨a0_0, a0_1, a0_2, l0_3, l0_4⟩ : Fm).tot ≤ 1048576) (pB (FmOk (⟨a0_0, a0_1, a0_2, l0_3, l0_4⟩ : Fm)))
set_option maxRecDepth 100000 in
theorem spec_FormValid.calls (a0_0 : Int) (a0_1 : ByteArray) (a0_2 : Int) (A0_3 : Option Addr) (c0_3 : Nat) (l0_3 : List Int) (A0_4 : Option Addr) (c0_4 : Nat) (l0_4 : List (S34)) (r : Bool) (w : World) (hr0_3 : Kd.C (Kd.int .i64) w A0_3 l0_3.length l0_3) (hc0_3 : l0_3.length ≤ c0_3) (hr0_4 : Kd.C k34 w A0_4 l0_4.length l0_4) (hc0_4 : l0_4.length ≤ c0_4) (h : spec_FormValid.f a0_0 a0_1 a0_2 l0_3 l0_4 = some r) :
    Calls Try.prog 82 #[.agg #[.int .i64 a0_0, .string a0_1, .int .i64 a0_2, .slice A0_3 l0_3.length c0_3, .slice A0_4 l0_4.length c0_4]] w fun e w' => e = .returned (.bool r) ∧ Below w.heap.size w w' := by
  obtain ⟨ht, rfl⟩ := gIf_some h
  exact specValid_any (⟨a0_0, a0_1, a0_2, l0_3, l0_4⟩ : Fm) A0_3 c0_3 A0_4 c0_4 w ⟨hc0_3, hr0_3, hc0_4, hr0_4⟩ ht

end Go.Proofs.Ytlklclebjeeaaaa.Q
end
section
namespace Go.Proofs.Ytlklclebjeeaaaa.Q
open Go.RowKit Go.Proofs.YtlklclebjeeaaaaW.PrintWords Go.Proofs.YtlklclebjeeaaaaW.PrintLast Go.Proofs.YtlklclebjeeaaaaW.PrintMore
attribute [local go_sem] max2_int min2_int max_two min_two max_three min_three max_four min_four   -- for this text's walks alone
set_option linter.unusedVariables false
set_option linter.unusedSimpArgs false

noncomputable def spec_l3Is.f (a0_0 : Int) (a0_1 : ByteArray) (a0_2 : Int) (l0_3 : List Int) (l0_4 : List (S34)) : Option (Bool) := if a0_0 = 1 then ((spec_FormValid.f a0_0 a0_1 a0_2 l0_3 l0_4).bind fun t167 => (some t167)) else (some false)
set_option maxHeartbeats 8000000 in
set_option maxRecDepth 100000 in
theorem spec_l3Is.calls (a0_0 : Int) (a0_1 : ByteArray) (a0_2 : Int) (A0_3 : Option Addr) (c0_3 : Nat) (l0_3 : List Int) (A0_4 : Option Addr) (c0_4 : Nat) (l0_4 : List (S34)) (r : Bool) (w : World) (hr0_3 : Kd.C (Kd.int .i64) w A0_3 l0_3.length l0_3) (hc0_3 : l0_3.length ≤ c0_3) (hr0_4 : Kd.C k34 w A0_4 l0_4.length l0_4) (hc0_4 : l0_4.length ≤ c0_4) (h : spec_l3Is.f a0_0 a0_1 a0_2 l0_3 l0_4 = some r) :
    Calls Try.prog 46 #[.agg #[.int .i64 a0_0, .string a0_1, .int .i64 a0_2, .slice A0_3 l0_3.length c0_3, .slice A0_4 l0_4.length c0_4]] w fun e w' => e = .returned (.bool r) ∧ Below w.heap.size w w' := by
  have hu34 := Try.underlying34
  have HR0_3 := Aside0.mk hr0_3
  have HC0_3 := Aside0.mk hc0_3
  clear hr0_3 hc0_3
  have HR0_4 := Aside0.mk hr0_4
  have HC0_4 := Aside0.mk hc0_4
  clear hr0_4 hc0_4
  have HB := Aside0.mk (Below.refl w.heap.size w)
  have H : (if a0_0 = 1 then ((spec_FormValid.f a0_0 a0_1 a0_2 l0_3 l0_4).bind fun t167 => (some t167)) else (some false)) = some r := h
  clear h
  by_cases c2 : a0_0 = 1
  · rw [if_pos c2] at H
    have c2b0 : (a0_0 == 1) = true := beq_iff_eq.mpr c2
    have c2b1 : (a0_0 != 1) = false := bne_eq_false_iff_eq.mpr c2
    clear c2
    replace H := Option.bind_eq_some_iff.mp H
    obtain ⟨t167, A30, H⟩ := H
    replace H : (some t167) = some r := H
    have A3 := Aside0.mk A30
    clear A30
    obtain rfl := Option.some.inj H
    go_enter Try.func46, Try.ntmps46
    go_wp2_with (first | ((with_reducible refine gate_dst (N := 1) rfl ?_); refine box_event ?hg (N := 1) ?hd (cs := #[.int .i64 a0_0, .string a0_1, .int .i64 a0_2, .slice A0_3 l0_3.length c0_3, .slice A0_4 l0_4.length c0_4]) (t := 34) ?hr ?_; (case hd => rfl); (case hg => rfl); (case hr => first | (go_simp; done) | (go_simp; rfl)); intro gb166 hg w4 hbox hb; have n0_ := Aside0.mk (below_step (by repeat (first | (with_reducible first | exact HB.out | apply below_alloc | apply pw_below_drewN | apply below_drew1) | exact HB.out)) hb); have n1_ := Aside0.mk (hbox); have n2_ := Aside0.mk ((by rw [hg]; exact (below_size (by repeat (first | (with_reducible first | exact HB.out | apply below_alloc | apply pw_below_drewN | apply below_drew1) | exact HB.out))) : w.heap.size ≤ gb166)); have n3_ := Aside0.mk ((by rw [hg]; exact (below_size (by repeat (first | (with_reducible first | exact HB.out | apply below_alloc | apply pw_below_drewN | apply below_drew1) | exact HB.out))) : w.heap.size ≤ gb166)); clear HB; have HB := n0_; have BK166 := n1_; have GW166 := n2_; have GE166 := n3_; clear n0_ n1_ n2_ n3_; clear hb hbox hg; have hcz5_0 : w4.cell? ⟨gb166, 0, none⟩ = some (.int .i64 a0_0) := (blk_cell BK166.out 0).trans rfl; have hcz5_1 : w4.cell? ⟨gb166, 1, none⟩ = some (.string a0_1) := (blk_cell BK166.out 1).trans rfl; have hcz5_2 : w4.cell? ⟨gb166, 2, none⟩ = some (.int .i64 a0_2) := (blk_cell BK166.out 2).trans rfl; have hcz5_3 : w4.cell? ⟨gb166, 3, none⟩ = some (.slice A0_3 l0_3.length c0_3) := (blk_cell BK166.out 3).trans rfl; have hcz5_4 : w4.cell? ⟨gb166, 4, none⟩ = some (.slice A0_4 l0_4.length c0_4) := (blk_cell BK166.out 4).trans rfl; have hfz5_0 := blk_frozen BK166.out 0; have hfz5_1 := blk_frozen BK166.out 1; have hfz5_2 := blk_frozen BK166.out 2; have hfz5_3 := blk_frozen BK166.out 3; have hfz5_4 := blk_frozen BK166.out 4) | (go_at_call 82; (with_reducible refine (spec_FormValid.calls a0_0 a0_1 a0_2 _ _ l0_3 _ _ l0_4 t167 _ ?side1 ?side2 ?side3 ?side4 A3.out).mono ?_); (case side1 => repeat (first | exact (Kd.C_below HR0_3.out HB.out) | (with_reducible refine Kd.C_alloc ?_ _) | (with_reducible refine Kd.C_drewN ?_ _) | (with_reducible refine Kd.C_drew ?_))); (case side2 => exact HC0_3.out); (case side3 => repeat (first | exact (Kd.C_below HR0_4.out HB.out) | (with_reducible refine Kd.C_alloc ?_ _) | (with_reducible refine Kd.C_drewN ?_ _) | (with_reducible refine Kd.C_drew ?_))); (case side4 => exact HC0_4.out); rintro e w6 ⟨rfl, hb⟩; have n0_ := Aside0.mk (blk_below (g := gb166) (o := .cells #[.int .i64 a0_0, .string a0_1, .int .i64 a0_2, .slice A0_3 l0_3.length c0_3, .slice A0_4 l0_4.length c0_4] 34 (0, 0)) (by (with_reducible repeat (first | refine blk_drewN ?_ _ | refine blk_drew ?_ | refine blk_alloc ?_ _)); exact BK166.out) hb); have n1_ := Aside0.mk (below_step (by repeat (first | (with_reducible first | exact HB.out | apply below_alloc | apply pw_below_drewN | apply below_drew1 | refine below_set ?_ GE166.out) | exact HB.out)) hb); clear BK166; clear HB; have BK166 := n0_; have HB := n1_; clear n0_ n1_; (try clear hb); (try clear hb2); (try clear hk); (try clear hi)))
    go_ret
    exact ⟨by first | rfl | (simp [errW_none, errW_some] <;> rfl) | (simp [*, errW_none, errW_some] <;> rfl), by repeat (first | (with_reducible first | exact HB.out | apply below_alloc | apply pw_below_drewN | apply below_drew1 | refine below_set ?_ GE166.out) | exact HB.out)⟩
  · rw [if_neg c2] at H
    have c2b0 : (a0_0 == 1) = false := beq_eq_false_iff_ne.mpr c2
    have c2b1 : (a0_0 != 1) = true := bne_iff_ne.mpr c2
    obtain rfl := Option.some.inj H
    go_enter Try.func46, Try.ntmps46
    go_wp2_with (first | ((with_reducible refine gate_dst (N := 1) rfl ?_); refine box_event ?hg (N := 1) ?hd (cs := #[.int .i64 a0_0, .string a0_1, .int .i64 a0_2, .slice A0_3 l0_3.length c0_3, .slice A0_4 l0_4.length c0_4]) (t := 34) ?hr ?_; (case hd => rfl); (case hg => rfl); (case hr => first | (go_simp; done) | (go_simp; rfl)); intro gb166 hg w7 hbox hb; have n0_ := Aside0.mk (below_step (by repeat (first | (with_reducible first | exact HB.out | apply below_alloc | apply pw_below_drewN | apply below_drew1) | exact HB.out)) hb); have n1_ := Aside0.mk (hbox); have n2_ := Aside0.mk ((by rw [hg]; exact (below_size (by repeat (first | (with_reducible first | exact HB.out | apply below_alloc | apply pw_below_drewN | apply below_drew1) | exact HB.out))) : w.heap.size ≤ gb166)); have n3_ := Aside0.mk ((by rw [hg]; exact (below_size (by repeat (first | (with_reducible first | exact HB.out | apply below_alloc | apply pw_below_drewN | apply below_drew1) | exact HB.out))) : w.heap.size ≤ gb166)); clear HB; have HB := n0_; have BK166 := n1_; have GW166 := n2_; have GE166 := n3_; clear n0_ n1_ n2_ n3_; clear hb hbox hg; have hcz8_0 : w7.cell? ⟨gb166, 0, none⟩ = some (.int .i64 a0_0) := (blk_cell BK166.out 0).trans rfl; have hcz8_1 : w7.cell? ⟨gb166, 1, none⟩ = some (.string a0_1) := (blk_cell BK166.out 1).trans rfl; have hcz8_2 : w7.cell? ⟨gb166, 2, none⟩ = some (.int .i64 a0_2) := (blk_cell BK166.out 2).trans rfl; have hcz8_3 : w7.cell? ⟨gb166, 3, none⟩ = some (.slice A0_3 l0_3.length c0_3) := (blk_cell BK166.out 3).trans rfl; have hcz8_4 : w7.cell? ⟨gb166, 4, none⟩ = some (.slice A0_4 l0_4.length c0_4) := (blk_cell BK166.out 4).trans rfl; have hfz8_0 := blk_frozen BK166.out 0; have hfz8_1 := blk_frozen BK166.out 1; have hfz8_2 := blk_frozen BK166.out 2; have hfz8_3 := blk_frozen BK166.out 3; have hfz8_4 := blk_frozen BK166.out 4))
    go_ret
    exact ⟨by first | rfl | (simp [errW_none, errW_some] <;> rfl) | (simp [*, errW_none, errW_some] <;> rfl), by repeat (first | (with_reducible first | exact HB.out | apply below_alloc | apply pw_below_drewN | apply below_drew1 | refine below_set ?_ GE166.out) | exact HB.out)⟩

end Go.Proofs.Ytlklclebjeeaaaa.Q
end
