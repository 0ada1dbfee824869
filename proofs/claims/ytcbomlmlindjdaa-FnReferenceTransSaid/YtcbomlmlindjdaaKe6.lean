/- Words for the laws' proofs (part 6): contracts of functions, and plain lemmas. -/
import Derived.ChangeSlices
import Derived.SizedLaws
import Derived.Test.YtcbomlmlindjdaaKe5
section
namespace Go.Proofs.Ytcbomlmlindjdaa
open Go.RowKit Go.Proofs.YtcbomlmlindjdaaW.PrintWords Go.Proofs.YtcbomlmlindjdaaW.PrintLast Go.Proofs.YtcbomlmlindjdaaW.PrintMore
set_option linter.unusedVariables false
set_option linter.unusedSimpArgs false
abbrev nm4 : List ByteArray := [⟨#[120]⟩, ⟨#[120]⟩, ⟨#[121]⟩, ⟨#[122]⟩]
theorem nm4_small {n : ByteArray} (h : n ∈ nm4) : n.size ≤ 13 := by
  simp only [List.mem_cons, List.not_mem_nil, or_false] at h
  rcases h with rfl | rfl | rfl | rfl <;> decide
/-- Bindings and a form are handed back. -/
def GetBF (w : World) (bl : List Bd) (x : Fm) (e : Ending) (w' : World) : Prop := ∃ A c A3 c3 A4 c4, e = .returned (.tuple #[.slice A bl.length c, .agg #[.int .i64 x.f0, .string x.f1, .int .i64 x.f2, .slice A3 x.f3.length c3, .slice A4 x.f4.length c4]]) ∧ BdS w.heap.size w' bl A c ∧ FmS w.heap.size w' x A3 c3 A4 c4 ∧ Below w.heap.size w w'
/-- A form reads, and goes on to where the blocks behind g other than g6 stand as_ they stood. -/
structure FmQ (g g6 : Nat) (w : World) (x : Fm) (A3 : Option Addr) (c3 : Nat) (A4 : Option Addr) (c4 : Nat) : Prop where mk ::
  out : ∀ W : World, (∀ b, g < b → b ≠ g6 → b < w.heap.size → W.heap[b]? = w.heap[b]?) → FmIn W x A3 c3 A4 c4
structure BdQ (g g6 : Nat) (w : World) (l : List Bd) (A : Option Addr) (c : Nat) : Prop where mk ::
  le : l.length ≤ c
  out : ∀ W : World, (∀ b, g < b → b ≠ g6 → b < w.heap.size → W.heap[b]? = w.heap[b]?) → kB.C W A l.length l
section
variable {g g6 : Nat} {w W : World} {x : Fm} {A3 A4 A : Option Addr} {c3 c4 c : Nat} {l : List Bd}
theorem FmQ.now (h : FmQ g g6 w x A3 c3 A4 c4) : FmIn w x A3 c3 A4 c4 := h.out w (fun _ _ _ _ => rfl)
theorem BdQ.now (h : BdQ g g6 w l A c) : kB.C w A l.length l := h.out w (fun _ _ _ _ => rfl)
theorem FmQ.move (h : FmQ g g6 w x A3 c3 A4 c4) (hs : w.heap.size ≤ W.heap.size) (hm : ∀ b, g < b → b ≠ g6 → b < w.heap.size → W.heap[b]? = w.heap[b]?) : FmQ g g6 W x A3 c3 A4 c4 :=
  ⟨fun W' h' => h.out W' (fun b h1 h2 h3 => (h' b h1 h2 (Nat.lt_of_lt_of_le h3 hs)).trans (hm b h1 h2 h3))⟩
theorem BdQ.move (h : BdQ g g6 w l A c) (hs : w.heap.size ≤ W.heap.size) (hm : ∀ b, g < b → b ≠ g6 → b < w.heap.size → W.heap[b]? = w.heap[b]?) : BdQ g g6 W l A c :=
  ⟨h.le, fun W' h' => h.out W' (fun b h1 h2 h3 => (h' b h1 h2 (Nat.lt_of_lt_of_le h3 hs)).trans (hm b h1 h2 h3))⟩
theorem FmQ.later (h : FmQ g g6 w x A3 c3 A4 c4) (hb : Below w.heap.size w W) : FmQ g g6 W x A3 c3 A4 c4 := h.move hb.size (fun b _ _ hlt => hb.block b hlt)
theorem BdQ.later (h : BdQ g g6 w l A c) (hb : Below w.heap.size w W) : BdQ g g6 W l A c := h.move hb.size (fun b _ _ hlt => hb.block b hlt)
theorem FmQ.keep (h : FmQ g g6 w x A3 c3 A4 c4) (hk : KeepBut w W g none) : FmQ g g6 W x A3 c3 A4 c4 := h.move hk.1 (fun b h1 _ hlt => hk.2 b hlt (by omega) (by simp))
theorem BdQ.keep (h : BdQ g g6 w l A c) (hk : KeepBut w W g none) : BdQ g g6 W l A c := h.move hk.1 (fun b h1 _ hlt => hk.2 b hlt (by omega) (by simp))
theorem FmQ.ofS {lo : Nat} (h : FmS lo w x A3 c3 A4 c4) (h1 : g < lo) (h2 : g6 < lo ∨ w.heap.size ≤ g6) : FmQ g g6 w x A3 c3 A4 c4 := ⟨fun W hW => h.out W (fun b h3 h4 => hW b (by omega) (by omega) h4)⟩
theorem BdQ.ofS {lo : Nat} (h : BdS lo w l A c) (h1 : g < lo) (h2 : g6 < lo ∨ w.heap.size ≤ g6) : BdQ g g6 w l A c := ⟨h.le, fun W hW => h.out W (fun b h3 h4 => hW b (by omega) (by omega) h4)⟩
theorem FmQ.toS {lo : Nat} (h : FmQ g g6 w x A3 c3 A4 c4) (h1 : lo ≤ g) : FmS lo w x A3 c3 A4 c4 := ⟨fun W hW => h.out W (fun b h3 _ h4 => hW b (by omega) h4)⟩
theorem BdQ.toS {lo : Nat} (h : BdQ g g6 w l A c) (h1 : lo ≤ g) : BdS lo w l A c := ⟨h.le, fun W hW => h.out W (fun b h3 _ h4 => hW b (by omega) h4)⟩
/-- The form's scopes give way to 1, 2, 3. -/
theorem sc123 {w0 w2 : World} {s : List Int} {q : Int} {a a' : Fm} {O : Obj} (ha : a' = ⟨a.f0, a.f1, a.f2, [1, 2, 3], a.f4⟩) (hf : FmQ g g6 w a A3 c3 A4 c4) (hl : BdQ g g6 w l A c) (hr : w.heap[w0.heap.size]? = some O) (hd : Dr w0 w2 g s q w)
    (hk : w.heap[g6]? = some (.cells #[.int .i64 a.f0, .string a.f1, .int .i64 a.f2, .slice A3 a.f3.length c3, .slice A4 a.f4.length c4] 30)) (hg : g < g6) (h0 : w0.heap.size < g6) (hw : w2.heap.size ≤ g6) :
    ∃ S3 d3 S4 d4, FmQ g g6 ((w.alloc (.cells #[.int .i64 1, .int .i64 2, .int .i64 3] 3 (0, 0))).setCell ⟨g6, 3, none⟩ (.slice (some ⟨w.heap.size, 0, none⟩) 3 3)) a' S3 d3 S4 d4 ∧ BdQ g g6 ((w.alloc (.cells #[.int .i64 1, .int .i64 2, .int .i64 3] 3 (0, 0))).setCell ⟨g6, 3, none⟩ (.slice (some ⟨w.heap.size, 0, none⟩) 3 3)) l A c ∧
      ((w.alloc (.cells #[.int .i64 1, .int .i64 2, .int .i64 3] 3 (0, 0))).setCell ⟨g6, 3, none⟩ (.slice (some ⟨w.heap.size, 0, none⟩) 3 3)).heap[w0.heap.size]? = some O ∧ Dr w0 w2 g s q ((w.alloc (.cells #[.int .i64 1, .int .i64 2, .int .i64 3] 3 (0, 0))).setCell ⟨g6, 3, none⟩ (.slice (some ⟨w.heap.size, 0, none⟩) 3 3)) ∧
      ((w.alloc (.cells #[.int .i64 1, .int .i64 2, .int .i64 3] 3 (0, 0))).setCell ⟨g6, 3, none⟩ (.slice (some ⟨w.heap.size, 0, none⟩) 3 3)).heap[g6]? = some (.cells #[.int .i64 a'.f0, .string a'.f1, .int .i64 a'.f2, .slice S3 a'.f3.length d3, .slice S4 a'.f4.length d4] 30) := by
  subst ha
  have h6 := blk_lt hk
  have bn := below_new w (.cells #[.int .i64 1, .int .i64 2, .int .i64 3] 3 (0, 0))
  have hset := blk_set (blk_below hk bn) 3 (.slice (some ⟨w.heap.size, 0, none⟩) 3 3)
  have hsz : ((w.alloc (.cells #[.int .i64 1, .int .i64 2, .int .i64 3] 3 (0, 0))).setCell ⟨g6, 3, none⟩ (.slice (some ⟨w.heap.size, 0, none⟩) 3 3)).heap.size = w.heap.size + 1 := by simp
  have hall : ∀ b, b ≠ g6 → b < w.heap.size → ((w.alloc (.cells #[.int .i64 1, .int .i64 2, .int .i64 3] 3 (0, 0))).setCell ⟨g6, 3, none⟩ (.slice (some ⟨w.heap.size, 0, none⟩) 3 3)).heap[b]? = w.heap[b]? := fun b h1 h2 => (Below.heap_setCell _ _ _ _ (by exact h1)).trans (bn.block b h2)
  have hnew : ((w.alloc (.cells #[.int .i64 1, .int .i64 2, .int .i64 3] 3 (0, 0))).setCell ⟨g6, 3, none⟩ (.slice (some ⟨w.heap.size, 0, none⟩) 3 3)).heap[w.heap.size]? = some (.cells #[.int .i64 1, .int .i64 2, .int .i64 3] 3 (0, 0)) := (Below.heap_setCell _ _ _ _ (show w.heap.size ≠ g6 by omega)).trans (blk_new w _)
  refine ⟨some ⟨w.heap.size, 0, none⟩, 3, A4, c4, ⟨fun W hW => ?_⟩, hl.move (by rw [hsz]; omega) (fun b _ h2 h3 => hall b h2 h3), (hall _ (by omega) (blk_lt hr)).trans hr, (hd.later bn).put (b := g6) (j := 3) hw (.slice (some ⟨w.heap.size, 0, none⟩) 3 3), ?_⟩
  · have h1 := hf.out W (fun b h1 h2 h3 => (hW b h1 h2 (by rw [hsz]; omega)).trans (hall b h2 h3))
    have h2 := hW w.heap.size (by omega) (by omega) (by rw [hsz]; omega)
    exact ⟨Nat.le_refl 3, reads_block (l := [1, 2, 3]) (h2.trans hnew) (by simp) rfl, h1.l4, h1.g4⟩
  · simpa using hset
end
set_option maxHeartbeats 8000000 in
set_option maxRecDepth 100000 in
theorem l3Case_ex (l : List Int) (hl : ∀ z, z ∈ l → 0 ≤ z ∧ z < 256) : ∃ (bl : List Bd) (x : Fm), SmD 102 bl ∧ x.tot ≤ 7000 ∧ ∀ (A : Option Addr) (c : Nat) (w : World), (Kd.int .u8).C w A l.length l → l.length ≤ c → Calls Try.prog 51 #[.slice A l.length c] w (GetBF w bl x) := by
  obtain ⟨s, hs, hopen⟩ := open_at l hl
  obtain ⟨bl, q0, hq0, hbl, hdraw⟩ := l3Draw_ex hs 0 (by omega)
  obtain ⟨nm, hnm, e1⟩ := ev_of hs q0 (by omega) nm4 (by simp) (by simp)
  have n1 := nm4_small hnm
  have ht1 : (lnm nm).tot = nm.size + 0 + 0 := Fm.tot_eq _
  have hs1 : (lnm nm).size = 1 + 0 := Fm.size_eq _
  obtain ⟨a, q1, hq1, b1, a1s, f1, c1⟩ := dress_ex hs (lnm nm) (by omega) (q0 + 1) (by omega)
  obtain ⟨v3, hv3, e3⟩ := ev_pick hs q1 (by omega) 3 (by omega)
  obtain ⟨v16, hv16, e16⟩ := ev_pick hs (q1 + 1) (by omega) 16 (by omega)
  have HO := Lib.hid hopen
  have HDRAW := Lib.hid hdraw
  have HE1 := Lib.hid e1
  have HS1 := Lib.hid c1
  have HE3 := Lib.hid e3
  have HE16 := Lib.hid e16
  have hat : a.tot ≤ 100 := by omega
  have has : a.size = 1 := by omega
  have hq9 : q1 ≤ 30 := by omega
  clear hopen hdraw e1 c1 e3 e16 hnm hv3 hv16 b1 a1s f1 ht1 hs1
  by_cases v30 : v3 = 0 <;> by_cases v160 : v16 = 0
  · have t3 : (v3 == 0) = true := beq_iff_eq.mpr v30
    have t16 : (v16 == 0) = true := beq_iff_eq.mpr v160
    obtain ⟨a', ha'⟩ : ∃ a' : Fm, a' = ⟨a.f0, a.f1, a.f2, [1, 2, 3], a.f4⟩ := ⟨_, rfl⟩
    have hat' : a'.tot ≤ 200 := by rw [ha', Fm.tot_eq]; have := Fm.tot_eq a; simp only [List.length_cons, List.length_nil]; omega
    have has' : a'.size = 1 := by rw [ha', Fm.size_eq]; have := Fm.size_eq a; show 1 + sizes a.f4 = 1; omega
    obtain ⟨bl1, q3, hq3, hb1, hw1⟩ := l3Wrong_ex hs bl 100 hbl (by omega) (q1 + 1 + 1) (by omega)
    obtain ⟨bl2, q4, hq4, hb2, hw2⟩ := l3Wrong_ex hs bl1 101 hb1 (by omega) q3 (by omega)
    obtain ⟨y, q5, hq5, ht5, _, hm⟩ := mutate_ex hs a' (by omega) q4 (by omega)
    refine ⟨bl2, y, hb2, by omega, fun A c w hr hc => ?_⟩
    have HW1 := Lib.hid hw1
    have HW2 := Lib.hid hw2
    have HM := Lib.hid hm
    clear hw1 hw2 hm hb1 hb2 hq3 hq4 hq5 ht5
    have HA' := Lib.hid ha'
    clear ha'
    clear hs hat' has' hq0 hq1 hq9 n1 hat has v30 v160 hbl
    go_enter Try.func51, Try.ntmps51
    go_wp2_with fail
    refine (HO.out A c w _ (below_new _ _) hr hc).mono ?_
    rintro e w2 ⟨g, rfl, hi, hb, hb2⟩
    obtain ⟨kr, hbw⟩ := one_new hb2
    have HD := Lib.hid (Dr.new hi hb)
    have HGR := Lib.hid (show g ≠ w.heap.size from Q.IsS78.ne_blk hi kr (by decide))
    have HGE := Lib.hid (show w.heap.size ≤ g from Q.IsS78.ge hi)
    have HR := Lib.hid kr
    have HRL := Lib.hid (blk_lt kr)
    clear hi hb hb2 kr hbw
    go_wp2_with fail
    refine (HDRAW.out g w w2 HD.out.is HD.out.b).mono ?_
    rintro e w3 ⟨L_A, L_c, rfl, hbs, hi, hb, hk⟩
    have HLIST := Lib.hid hbs
    have HGL := Lib.hid (show g < w2.heap.size from HD.out.lt)
    replace HR := Lib.hid (hk.blk HR.out (fun e => HGR.out e.symm) (by simp))
    replace HD := Lib.hid (HD.out.call hi hb hk)
    clear hbs hi hb hk
    go_wp2_with fail
    refine (of_lit (l := nm4) rfl (by simp) HE1.out g w w3 HD.out.is HD.out.b).mono ?_
    rintro e w4 ⟨rfl, hi, hb, hk⟩
    replace HLIST := Lib.hid (HLIST.out.keep hk HGL.out)
    replace HR := Lib.hid (hk.blk HR.out (fun e => HGR.out e.symm) (by simp))
    replace HD := Lib.hid (HD.out.call hi hb hk)
    clear hi hb hk
    go_wp2_with fail
    refine (l1Name_any nm w4).mono ?_
    rintro e w5 ⟨rfl, hb⟩
    replace HLIST := Lib.hid (HLIST.out.later hb)
    replace HR := Lib.hid (blk_below HR.out hb)
    replace HD := Lib.hid (HD.out.later hb)
    clear hb
    go_wp2_with fail
    refine (HS1.out g none 0 none 0 w w5 HD.out.is HD.out.b (lnm_in nm w5)).mono ?_
    intro e w6 hpo
    obtain ⟨A_3, A_c3, A_4, A_c4, rfl, hf, hi, hb, hk⟩ := hpo.get
    have HF := Lib.hid (FmQ.ofS (g6 := w6.heap.size) hf HD.out.ltW (.inr (Nat.le_refl _)))
    replace HLIST := Lib.hid (BdQ.ofS (g6 := w6.heap.size) (HLIST.out.keep hk HGL.out) HGL.out (.inr (Nat.le_refl _)))
    replace HR := Lib.hid (hk.blk HR.out (fun e => HGR.out e.symm) (by simp))
    replace HD := Lib.hid (HD.out.call hi hb hk)
    clear hi hb hk hf hpo
    go_wp2_with fail
    have bn := below_new w6 (.cells #[.int .i64 a.f0, .string a.f1, .int .i64 a.f2, .slice A_3 a.f3.length A_c3, .slice A_4 a.f4.length A_c4] 30)
    have HGB := Lib.hid (show w6.heap.size ≠ g from by have := HD.out.ltW; omega)
    have HGB3 := Lib.hid (show g < w6.heap.size from HD.out.ltW)
    have HGB4 := Lib.hid (show w2.heap.size ≤ w6.heap.size from HD.out.size)
    have HGB2 := Lib.hid (show w.heap.size < w6.heap.size from by have := HD.out.size; have := HRL.out; omega)
    refine (pick_at HE3.out g w _ (HD.out.later bn).is (HD.out.later bn).b).mono ?_
    rintro e w7 ⟨rfl, hi, hb, hk⟩
    have HK := Lib.hid (show w7.heap[w6.heap.size]? = some (.cells #[.int .i64 a.f0, .string a.f1, .int .i64 a.f2, .slice A_3 a.f3.length A_c3, .slice A_4 a.f4.length A_c4] 30) from hk.blk (blk_new w6 _) HGB.out (by simp))
    replace HF := Lib.hid ((HF.out.later bn).keep hk)
    replace HLIST := Lib.hid ((HLIST.out.later bn).keep hk)
    replace HR := Lib.hid (hk.blk (blk_below HR.out bn) (fun e => HGR.out e.symm) (by simp))
    replace HD := Lib.hid ((HD.out.later bn).call hi hb hk)
    clear hi hb hk bn
    have z3 := (fm_cells (blk_alloc HK.out (.cells #[.int .i64 1, .int .i64 2, .int .i64 3] 3 (0, 0)))).2.2.2.1
    have y3 := (fm_free (blk_alloc HK.out (.cells #[.int .i64 1, .int .i64 2, .int .i64 3] 3 (0, 0)))).2.2.2.1
    have HP := Lib.hid (sc123 HA'.out HF.out HLIST.out HR.out HD.out HK.out HGB3.out HGB2.out HGB4.out)
    go_wp2_with fail
    obtain ⟨S_3, S_c3, S_4, S_c4, hf, hli, hr2, hd, hk2⟩ := HP.out
    replace HF := Lib.hid hf
    replace HLIST := Lib.hid hli
    replace HR := Lib.hid hr2
    replace HD := Lib.hid hd
    replace HK := Lib.hid hk2
    clear hf hli hr2 hd hk2 HP z3 y3
    generalize (World.setCell (World.alloc w7 _) _ _) = wq at HF HLIST HR HD HK ⊢
    refine (pick_at HE16.out g w wq HD.out.is HD.out.b).mono ?_
    rintro e w8 ⟨rfl, hi, hb, hk⟩
    replace HF := Lib.hid (HF.out.keep hk)
    replace HLIST := Lib.hid (HLIST.out.keep hk)
    replace HR := Lib.hid (hk.blk HR.out (fun e => HGR.out e.symm) (by simp))
    replace HK := Lib.hid (hk.blk HK.out HGB.out (by simp))
    replace HD := Lib.hid (HD.out.call hi hb hk)
    clear hi hb hk
    go_wp2_with fail
    have HDD := Lib.hid (HD.out.later (below_drew (Below.refl _ _)))
    have HKD := Lib.hid (blk_drew HK.out)
    have HRD := Lib.hid (blk_drew HR.out)
    have HFD := Lib.hid (HF.out.later (below_drew (Below.refl _ _)))
    have HLD := Lib.hid (HLIST.out.later (below_drew (Below.refl _ _)))
    clear HK HR HF HLIST HD
    refine start_ (n := 10) (S := (fun W : World => W.cell? ⟨w6.heap.size, 0, none⟩ = some (.int .i64 a'.f0) ∧ W.cell? ⟨w6.heap.size, 1, none⟩ = some (.string a'.f1) ∧ W.cell? ⟨w6.heap.size, 2, none⟩ = some (.int .i64 a'.f2) ∧ W.cell? ⟨w6.heap.size, 3, none⟩ = some (.slice S_3 a'.f3.length S_c3) ∧ W.cell? ⟨w6.heap.size, 4, none⟩ = some (.slice S_4 a'.f4.length S_c4))) (ds := []) #[false, false, false, false, false, false, false, false, false, false] (by kernel_rfl) rfl rfl (fm_cells HKD.out) (fun hHeld => ?_)
    generalize w8.drew = wd at HDD HKD HRD HFD HLD hHeld ⊢
    refine pure_ (i := 0) (N := some 25) (v := ?_) (a' := ?_) #[true, false, false, false, false, false, false, false, false, false] rfl rfl (by kernel_rfl) (fun _ _ _ h => h) (Or.inl ⟨by rfl, ?_⟩) ?_ ?_
    rotate_left
    · intro w'
      go_simp
      with_reducible rfl
    rotate_left
    · simp only [Act.put, List.setIfInBounds_toArray, List.set_cons_zero, List.set_cons_succ, i64_w, i32_w]
      rfl
    refine pure_ (i := 1) (N := some 26) (v := ?_) (a' := ?_) #[true, true, false, false, false, false, false, false, false, false] rfl rfl (by kernel_rfl) (fun _ _ _ h => h) (Or.inl ⟨by rfl, ?_⟩) ?_ ?_
    rotate_left
    · intro w'
      go_simp
      with_reducible rfl
    rotate_left
    · simp only [Act.put, List.setIfInBounds_toArray, List.set_cons_zero, List.set_cons_succ, i64_w, i32_w]
      rfl
    refine pure_ (i := 2) (N := some 27) (v := ?_) (a' := ?_) #[true, true, true, false, false, false, false, false, false, false] rfl rfl (by kernel_rfl) (fun _ _ _ h => h) (Or.inl ⟨by rfl, ?_⟩) ?_ ?_
    rotate_left
    · intro w'
      go_simp
      with_reducible rfl
    rotate_left
    · simp only [Act.put, List.setIfInBounds_toArray, List.set_cons_zero, List.set_cons_succ, i64_w, i32_w]
      rfl
    refine pure_ (i := 5) (N := some 30) (v := ?_) (a' := ?_) #[true, true, true, false, false, true, false, false, false, false] rfl rfl (by kernel_rfl) (fun _ _ _ h => h) (Or.inl ⟨by rfl, ?_⟩) ?_ ?_
    rotate_left
    · intro w'
      go_simp
      with_reducible rfl
    rotate_left
    · simp only [Act.put, List.setIfInBounds_toArray, List.set_cons_zero, List.set_cons_succ, i64_w, i32_w]
      rfl
    refine take_ (i := 6) (N := some 31) (v := ?_) (a' := ?_) #[true, true, true, false, false, true, true, false, false, false] rfl rfl (by kernel_rfl) (fun _ _ _ h => h) (Or.inl ⟨by rfl, ?_⟩) hHeld ?_ ?_
    rotate_left
    · rintro w' ⟨s0, s1, s2, s3, s4⟩
      go_simp
      with_reducible rfl
    rotate_left
    · simp only [Act.put, List.setIfInBounds_toArray, List.set_cons_zero, List.set_cons_succ, i64_w, i32_w]
      rfl
    refine one_ (i := 3) (N := some 28) #[true, true, true, true, false, true, true, false, false, false] rfl rfl (by kernel_rfl) (by decide) (fun K hK => ?_)
    refine goes_ Try.func40 (by kernel_rfl) rfl #[.pointer (some ⟨g, 0, none⟩), .slice L_A bl.length L_c] (by rfl) rfl rfl (by (try simp only [List.map_toArray, List.map_cons, List.map_nil]); first | done | rfl) ?_
    refine (HW1.out g w wd L_A L_c HDD.out.is HDD.out.b HLD.out.now HLD.out.le).mono ?_
    rintro e w9 ⟨M_A, M_c, rfl, hbs, hi, hb, hk⟩
    have HMD := Lib.hid (BdQ.ofS (g6 := w6.heap.size) hbs HDD.out.ltW (.inl (blk_lt HKD.out)))
    clear hbs
    refine ⟨_, rfl, ?_⟩
    replace HKD := Lib.hid (hk.blk HKD.out HGB.out (by simp))
    replace HRD := Lib.hid (hk.blk HRD.out (fun e => HGR.out e.symm) (by simp))
    replace HFD := Lib.hid (HFD.out.keep hk)
    replace HDD := Lib.hid (HDD.out.call hi hb hk)
    clear hi hb hk
    refine hK.out _ _ (fm_cells HKD.out) (fun hHeld => ?_)
    clear hK K
    refine norm_ (a' := ?_) ?_ ?_
    rotate_left
    · show Act.put _ (some 28) _ = _
      simp only [Act.put, List.setIfInBounds_toArray, List.set_cons_zero, List.set_cons_succ, i64_w, i32_w]
      rfl
    refine one_ (i := 4) (N := some 29) #[true, true, true, true, true, true, true, false, false, false] rfl rfl (by kernel_rfl) (by decide) (fun K hK => ?_)
    refine goes_ Try.func40 (by kernel_rfl) rfl #[.pointer (some ⟨g, 0, none⟩), .slice M_A bl1.length M_c] (by rfl) rfl rfl (by (try simp only [List.map_toArray, List.map_cons, List.map_nil]); first | done | rfl) ?_
    refine (HW2.out g w w9 M_A M_c HDD.out.is HDD.out.b HMD.out.now HMD.out.le).mono ?_
    rintro e w10 ⟨N_A, N_c, rfl, hbs, hi, hb, hk⟩
    have HND := Lib.hid (BdQ.ofS (g6 := w6.heap.size) hbs HDD.out.ltW (.inl (blk_lt HKD.out)))
    clear hbs
    refine ⟨_, rfl, ?_⟩
    replace HKD := Lib.hid (hk.blk HKD.out HGB.out (by simp))
    replace HRD := Lib.hid (hk.blk HRD.out (fun e => HGR.out e.symm) (by simp))
    replace HFD := Lib.hid (HFD.out.keep hk)
    replace HDD := Lib.hid (HDD.out.call hi hb hk)
    clear hi hb hk
    refine hK.out _ _ (fm_cells HKD.out) (fun hHeld => ?_)
    clear hK K
    refine norm_ (a' := ?_) ?_ ?_
    rotate_left
    · show Act.put _ (some 29) _ = _
      simp only [Act.put, List.setIfInBounds_toArray, List.set_cons_zero, List.set_cons_succ, i64_w, i32_w]
      rfl
    refine one_ (i := 7) (N := some 32) #[true, true, true, true, true, true, true, true, false, false] rfl rfl (by kernel_rfl) (by decide) (fun K hK => ?_)
    refine goes_ Try.func80 (by kernel_rfl) rfl #[.pointer (some ⟨g, 0, none⟩), .agg #[.int .i64 a'.f0, .string a'.f1, .int .i64 a'.f2, .slice S_3 a'.f3.length S_c3, .slice S_4 a'.f4.length S_c4]] (by rfl) rfl rfl (by (try simp only [List.map_toArray, List.map_cons, List.map_nil]); first | done | rfl) ?_
    refine (HM.out g S_3 S_c3 S_4 S_c4 w w10 HDD.out.is HDD.out.b HFD.out.now).mono ?_
    intro e w11 hpo
    obtain ⟨Y_3, Y_c3, Y_4, Y_c4, rfl, hf, hi, hb, hk⟩ := hpo.get
    have HYD := Lib.hid (FmQ.ofS (g6 := w6.heap.size) hf HDD.out.ltW (.inl (blk_lt HKD.out)))
    clear hf hpo
    refine ⟨_, rfl, ?_⟩
    replace HKD := Lib.hid (hk.blk HKD.out HGB.out (by simp))
    replace HRD := Lib.hid (hk.blk HRD.out (fun e => HGR.out e.symm) (by simp))
    replace HFD := Lib.hid (HFD.out.keep hk)
    replace HND := Lib.hid (HND.out.keep hk)
    replace HDD := Lib.hid (HDD.out.call hi hb hk)
    clear hi hb hk
    refine hK.out _ _ (fm_cells HKD.out) (fun hHeld => ?_)
    clear hK K
    refine norm_ (a' := ?_) ?_ ?_
    rotate_left
    · show Act.put _ (some 32) _ = _
      simp only [Act.put, List.setIfInBounds_toArray, List.set_cons_zero, List.set_cons_succ, i64_w, i32_w]
      rfl
    refine pure_ (i := 8) (N := some 2) (v := ?_) (a' := ?_) #[true, true, true, true, true, true, true, true, true, false] rfl rfl (by kernel_rfl) (fun _ _ _ h => h) (Or.inl ⟨by rfl, ?_⟩) ?_ ?_
    rotate_left
    · intro w'
      go_simp
      with_reducible rfl
    rotate_left
    · simp only [Act.put, List.setIfInBounds_toArray, List.set_cons_zero, List.set_cons_succ, i64_w, i32_w]
      rfl
    obtain ⟨z0, z1, z2, z3, z4⟩ := fm_cells HRD.out
    obtain ⟨f0, f1, f2, f3, f4⟩ := fm_free HRD.out
    obtain ⟨st1, st2, st3⟩ := st5 HRD.out (.int .i64 y.f0) (.string y.f1) (.int .i64 y.f2) (.slice Y_3 y.f3.length Y_c3) (.slice Y_4 y.f4.length Y_c4)
    have K5 := Lib.hid ((st2 w6.heap.size (by have := HGB2.out; omega)).trans HKD.out)
    have R2 := Lib.hid st1
    have FA := Lib.hid (HYD.out.move (st3 0 w11 (Below.refl 0 _) (Nat.zero_le _)).size (fun b h1 _ h2 => st2 b (by have := HGE.out; omega)))
    have LL := Lib.hid (HND.out.move (st3 0 w11 (Below.refl 0 _) (Nat.zero_le _)).size (fun b h1 _ h2 => st2 b (by have := HGE.out; omega)))
    have BB := Lib.hid (st3 _ _ HDD.out.b (Nat.le_refl _))
    clear st1 st2 st3
    refine one_ (i := 9) (N := none) #[true, true, true, true, true, true, true, true, true, true] rfl rfl (by kernel_rfl) (by decide) (fun K hK => ?_)
    refine skip_ (w1 := ?_) (by rfl) rfl ?_ ?_
    rotate_left
    · go_simp
      rfl
    refine hK.out _ _ (fm_cells K5.out) (fun hHeld => ?_)
    clear hK K z0 z1 z2 z3 z4 f0 f1 f2 f3 f4
    generalize World.setCell (World.setCell (World.setCell (World.setCell (World.setCell w11 _ _) _ _) _ _) _ _) _ _ = wx at K5 R2 FA LL BB hHeld ⊢
    refine done_ (by kernel_rfl) ?_
    obtain ⟨z0, z1, z2, z3, z4⟩ := fm_cells R2.out
    try go_wp2_with fail
    refine bodyPost_ret (v := .tuple #[.slice N_A bl2.length N_c, .agg #[.int .i64 y.f0, .string y.f1, .int .i64 y.f2, .slice Y_3 y.f3.length Y_c3, .slice Y_4 y.f4.length Y_c4]]) (by simp [results, Try.results51, go_sem, z0, z1, z2, z3, z4]) rfl ?_
    exact ⟨_, _, _, _, _, _, rfl, LL.out.toS HGE.out, FA.out.toS HGE.out, BB.out⟩
  · have t3 : (v3 == 0) = true := beq_iff_eq.mpr v30
    have t16 : (v16 == 0) = false := beq_eq_false_iff_ne.mpr v160
    obtain ⟨a', ha'⟩ : ∃ a' : Fm, a' = ⟨a.f0, a.f1, a.f2, [1, 2, 3], a.f4⟩ := ⟨_, rfl⟩
    have hat' : a'.tot ≤ 200 := by rw [ha', Fm.tot_eq]; have := Fm.tot_eq a; simp only [List.length_cons, List.length_nil]; omega
    have has' : a'.size = 1 := by rw [ha', Fm.size_eq]; have := Fm.size_eq a; show 1 + sizes a.f4 = 1; omega
    refine ⟨bl, a', hbl.more (by omega), by omega, fun A c w hr hc => ?_⟩
    have HA' := Lib.hid ha'
    clear ha'
    clear hs hat' has' hq0 hq1 hq9 n1 hat has v30 v160 hbl
    go_enter Try.func51, Try.ntmps51
    go_wp2_with fail
    refine (HO.out A c w _ (below_new _ _) hr hc).mono ?_
    rintro e w2 ⟨g, rfl, hi, hb, hb2⟩
    obtain ⟨kr, hbw⟩ := one_new hb2
    have HD := Lib.hid (Dr.new hi hb)
    have HGR := Lib.hid (show g ≠ w.heap.size from Q.IsS78.ne_blk hi kr (by decide))
    have HGE := Lib.hid (show w.heap.size ≤ g from Q.IsS78.ge hi)
    have HR := Lib.hid kr
    have HRL := Lib.hid (blk_lt kr)
    clear hi hb hb2 kr hbw
    go_wp2_with fail
    refine (HDRAW.out g w w2 HD.out.is HD.out.b).mono ?_
    rintro e w3 ⟨L_A, L_c, rfl, hbs, hi, hb, hk⟩
    have HLIST := Lib.hid hbs
    have HGL := Lib.hid (show g < w2.heap.size from HD.out.lt)
    replace HR := Lib.hid (hk.blk HR.out (fun e => HGR.out e.symm) (by simp))
    replace HD := Lib.hid (HD.out.call hi hb hk)
    clear hbs hi hb hk
    go_wp2_with fail
    refine (of_lit (l := nm4) rfl (by simp) HE1.out g w w3 HD.out.is HD.out.b).mono ?_
    rintro e w4 ⟨rfl, hi, hb, hk⟩
    replace HLIST := Lib.hid (HLIST.out.keep hk HGL.out)
    replace HR := Lib.hid (hk.blk HR.out (fun e => HGR.out e.symm) (by simp))
    replace HD := Lib.hid (HD.out.call hi hb hk)
    clear hi hb hk
    go_wp2_with fail
    refine (l1Name_any nm w4).mono ?_
    rintro e w5 ⟨rfl, hb⟩
    replace HLIST := Lib.hid (HLIST.out.later hb)
    replace HR := Lib.hid (blk_below HR.out hb)
    replace HD := Lib.hid (HD.out.later hb)
    clear hb
    go_wp2_with fail
    refine (HS1.out g none 0 none 0 w w5 HD.out.is HD.out.b (lnm_in nm w5)).mono ?_
    intro e w6 hpo
    obtain ⟨A_3, A_c3, A_4, A_c4, rfl, hf, hi, hb, hk⟩ := hpo.get
    have HF := Lib.hid (FmQ.ofS (g6 := w6.heap.size) hf HD.out.ltW (.inr (Nat.le_refl _)))
    replace HLIST := Lib.hid (BdQ.ofS (g6 := w6.heap.size) (HLIST.out.keep hk HGL.out) HGL.out (.inr (Nat.le_refl _)))
    replace HR := Lib.hid (hk.blk HR.out (fun e => HGR.out e.symm) (by simp))
    replace HD := Lib.hid (HD.out.call hi hb hk)
    clear hi hb hk hf hpo
    go_wp2_with fail
    have bn := below_new w6 (.cells #[.int .i64 a.f0, .string a.f1, .int .i64 a.f2, .slice A_3 a.f3.length A_c3, .slice A_4 a.f4.length A_c4] 30)
    have HGB := Lib.hid (show w6.heap.size ≠ g from by have := HD.out.ltW; omega)
    have HGB3 := Lib.hid (show g < w6.heap.size from HD.out.ltW)
    have HGB4 := Lib.hid (show w2.heap.size ≤ w6.heap.size from HD.out.size)
    have HGB2 := Lib.hid (show w.heap.size < w6.heap.size from by have := HD.out.size; have := HRL.out; omega)
    refine (pick_at HE3.out g w _ (HD.out.later bn).is (HD.out.later bn).b).mono ?_
    rintro e w7 ⟨rfl, hi, hb, hk⟩
    have HK := Lib.hid (show w7.heap[w6.heap.size]? = some (.cells #[.int .i64 a.f0, .string a.f1, .int .i64 a.f2, .slice A_3 a.f3.length A_c3, .slice A_4 a.f4.length A_c4] 30) from hk.blk (blk_new w6 _) HGB.out (by simp))
    replace HF := Lib.hid ((HF.out.later bn).keep hk)
    replace HLIST := Lib.hid ((HLIST.out.later bn).keep hk)
    replace HR := Lib.hid (hk.blk (blk_below HR.out bn) (fun e => HGR.out e.symm) (by simp))
    replace HD := Lib.hid ((HD.out.later bn).call hi hb hk)
    clear hi hb hk bn
    have z3 := (fm_cells (blk_alloc HK.out (.cells #[.int .i64 1, .int .i64 2, .int .i64 3] 3 (0, 0)))).2.2.2.1
    have y3 := (fm_free (blk_alloc HK.out (.cells #[.int .i64 1, .int .i64 2, .int .i64 3] 3 (0, 0)))).2.2.2.1
    have HP := Lib.hid (sc123 HA'.out HF.out HLIST.out HR.out HD.out HK.out HGB3.out HGB2.out HGB4.out)
    go_wp2_with fail
    obtain ⟨S_3, S_c3, S_4, S_c4, hf, hli, hr2, hd, hk2⟩ := HP.out
    replace HF := Lib.hid hf
    replace HLIST := Lib.hid hli
    replace HR := Lib.hid hr2
    replace HD := Lib.hid hd
    replace HK := Lib.hid hk2
    clear hf hli hr2 hd hk2 HP z3 y3
    generalize (World.setCell (World.alloc w7 _) _ _) = wq at HF HLIST HR HD HK ⊢
    refine (pick_at HE16.out g w wq HD.out.is HD.out.b).mono ?_
    rintro e w8 ⟨rfl, hi, hb, hk⟩
    replace HF := Lib.hid (HF.out.keep hk)
    replace HLIST := Lib.hid (HLIST.out.keep hk)
    replace HR := Lib.hid (hk.blk HR.out (fun e => HGR.out e.symm) (by simp))
    replace HK := Lib.hid (hk.blk HK.out HGB.out (by simp))
    replace HD := Lib.hid (HD.out.call hi hb hk)
    clear hi hb hk
    go_wp2_with fail
    have HDD := Lib.hid (HD.out.later (below_drew (Below.refl _ _)))
    have HKD := Lib.hid (blk_drew HK.out)
    have HRD := Lib.hid (blk_drew HR.out)
    have HFD := Lib.hid (HF.out.later (below_drew (Below.refl _ _)))
    have HLD := Lib.hid (HLIST.out.later (below_drew (Below.refl _ _)))
    clear HK HR HF HLIST HD
    refine start_ (n := 4) (S := (fun W : World => W.cell? ⟨w6.heap.size, 0, none⟩ = some (.int .i64 a'.f0) ∧ W.cell? ⟨w6.heap.size, 1, none⟩ = some (.string a'.f1) ∧ W.cell? ⟨w6.heap.size, 2, none⟩ = some (.int .i64 a'.f2) ∧ W.cell? ⟨w6.heap.size, 3, none⟩ = some (.slice S_3 a'.f3.length S_c3) ∧ W.cell? ⟨w6.heap.size, 4, none⟩ = some (.slice S_4 a'.f4.length S_c4))) (ds := []) #[false, false, false, false] (by kernel_rfl) rfl rfl (fm_cells HKD.out) (fun hHeld => ?_)
    generalize w8.drew = wd at HDD HKD HRD HFD HLD hHeld ⊢
    refine pure_ (i := 0) (N := some 33) (v := ?_) (a' := ?_) #[true, false, false, false] rfl rfl (by kernel_rfl) (fun _ _ _ h => h) (Or.inl ⟨by rfl, ?_⟩) ?_ ?_
    rotate_left
    · intro w'
      go_simp
      with_reducible rfl
    rotate_left
    · simp only [Act.put, List.setIfInBounds_toArray, List.set_cons_zero, List.set_cons_succ, i64_w, i32_w]
      rfl
    refine take_ (i := 1) (N := some 34) (v := ?_) (a' := ?_) #[true, true, false, false] rfl rfl (by kernel_rfl) (fun _ _ _ h => h) (Or.inl ⟨by rfl, ?_⟩) hHeld ?_ ?_
    rotate_left
    · rintro w' ⟨s0, s1, s2, s3, s4⟩
      go_simp
      with_reducible rfl
    rotate_left
    · simp only [Act.put, List.setIfInBounds_toArray, List.set_cons_zero, List.set_cons_succ, i64_w, i32_w]
      rfl
    refine pure_ (i := 2) (N := some 2) (v := ?_) (a' := ?_) #[true, true, true, false] rfl rfl (by kernel_rfl) (fun _ _ _ h => h) (Or.inl ⟨by rfl, ?_⟩) ?_ ?_
    rotate_left
    · intro w'
      go_simp
      with_reducible rfl
    rotate_left
    · simp only [Act.put, List.setIfInBounds_toArray, List.set_cons_zero, List.set_cons_succ, i64_w, i32_w]
      rfl
    obtain ⟨z0, z1, z2, z3, z4⟩ := fm_cells HRD.out
    obtain ⟨f0, f1, f2, f3, f4⟩ := fm_free HRD.out
    obtain ⟨st1, st2, st3⟩ := st5 HRD.out (.int .i64 a'.f0) (.string a'.f1) (.int .i64 a'.f2) (.slice S_3 a'.f3.length S_c3) (.slice S_4 a'.f4.length S_c4)
    have K5 := Lib.hid ((st2 w6.heap.size (by have := HGB2.out; omega)).trans HKD.out)
    have R2 := Lib.hid st1
    have FA := Lib.hid (HFD.out.move (st3 0 wd (Below.refl 0 _) (Nat.zero_le _)).size (fun b h1 _ h2 => st2 b (by have := HGE.out; omega)))
    have LL := Lib.hid (HLD.out.move (st3 0 wd (Below.refl 0 _) (Nat.zero_le _)).size (fun b h1 _ h2 => st2 b (by have := HGE.out; omega)))
    have BB := Lib.hid (st3 _ _ HDD.out.b (Nat.le_refl _))
    clear st1 st2 st3
    refine one_ (i := 3) (N := none) #[true, true, true, true] rfl rfl (by kernel_rfl) (by decide) (fun K hK => ?_)
    refine skip_ (w1 := ?_) (by rfl) rfl ?_ ?_
    rotate_left
    · go_simp
      rfl
    refine hK.out _ _ (fm_cells K5.out) (fun hHeld => ?_)
    clear hK K z0 z1 z2 z3 z4 f0 f1 f2 f3 f4
    generalize World.setCell (World.setCell (World.setCell (World.setCell (World.setCell wd _ _) _ _) _ _) _ _) _ _ = wx at K5 R2 FA LL BB hHeld ⊢
    refine done_ (by kernel_rfl) ?_
    obtain ⟨z0, z1, z2, z3, z4⟩ := fm_cells R2.out
    try go_wp2_with fail
    refine bodyPost_ret (v := .tuple #[.slice L_A bl.length L_c, .agg #[.int .i64 a'.f0, .string a'.f1, .int .i64 a'.f2, .slice S_3 a'.f3.length S_c3, .slice S_4 a'.f4.length S_c4]]) (by simp [results, Try.results51, go_sem, z0, z1, z2, z3, z4]) rfl ?_
    exact ⟨_, _, _, _, _, _, rfl, LL.out.toS HGE.out, FA.out.toS HGE.out, BB.out⟩
  · have t3 : (v3 == 0) = false := beq_eq_false_iff_ne.mpr v30
    have t16 : (v16 == 0) = true := beq_iff_eq.mpr v160
    obtain ⟨bl1, q3, hq3, hb1, hw1⟩ := l3Wrong_ex hs bl 100 hbl (by omega) (q1 + 1 + 1) (by omega)
    obtain ⟨bl2, q4, hq4, hb2, hw2⟩ := l3Wrong_ex hs bl1 101 hb1 (by omega) q3 (by omega)
    obtain ⟨y, q5, hq5, ht5, _, hm⟩ := mutate_ex hs a (by omega) q4 (by omega)
    refine ⟨bl2, y, hb2, by omega, fun A c w hr hc => ?_⟩
    have HW1 := Lib.hid hw1
    have HW2 := Lib.hid hw2
    have HM := Lib.hid hm
    clear hw1 hw2 hm hb1 hb2 hq3 hq4 hq5 ht5
    clear hs hq0 hq1 hq9 n1 hat has v30 v160 hbl
    go_enter Try.func51, Try.ntmps51
    go_wp2_with fail
    refine (HO.out A c w _ (below_new _ _) hr hc).mono ?_
    rintro e w2 ⟨g, rfl, hi, hb, hb2⟩
    obtain ⟨kr, hbw⟩ := one_new hb2
    have HD := Lib.hid (Dr.new hi hb)
    have HGR := Lib.hid (show g ≠ w.heap.size from Q.IsS78.ne_blk hi kr (by decide))
    have HGE := Lib.hid (show w.heap.size ≤ g from Q.IsS78.ge hi)
    have HR := Lib.hid kr
    have HRL := Lib.hid (blk_lt kr)
    clear hi hb hb2 kr hbw
    go_wp2_with fail
    refine (HDRAW.out g w w2 HD.out.is HD.out.b).mono ?_
    rintro e w3 ⟨L_A, L_c, rfl, hbs, hi, hb, hk⟩
    have HLIST := Lib.hid hbs
    have HGL := Lib.hid (show g < w2.heap.size from HD.out.lt)
    replace HR := Lib.hid (hk.blk HR.out (fun e => HGR.out e.symm) (by simp))
    replace HD := Lib.hid (HD.out.call hi hb hk)
    clear hbs hi hb hk
    go_wp2_with fail
    refine (of_lit (l := nm4) rfl (by simp) HE1.out g w w3 HD.out.is HD.out.b).mono ?_
    rintro e w4 ⟨rfl, hi, hb, hk⟩
    replace HLIST := Lib.hid (HLIST.out.keep hk HGL.out)
    replace HR := Lib.hid (hk.blk HR.out (fun e => HGR.out e.symm) (by simp))
    replace HD := Lib.hid (HD.out.call hi hb hk)
    clear hi hb hk
    go_wp2_with fail
    refine (l1Name_any nm w4).mono ?_
    rintro e w5 ⟨rfl, hb⟩
    replace HLIST := Lib.hid (HLIST.out.later hb)
    replace HR := Lib.hid (blk_below HR.out hb)
    replace HD := Lib.hid (HD.out.later hb)
    clear hb
    go_wp2_with fail
    refine (HS1.out g none 0 none 0 w w5 HD.out.is HD.out.b (lnm_in nm w5)).mono ?_
    intro e w6 hpo
    obtain ⟨A_3, A_c3, A_4, A_c4, rfl, hf, hi, hb, hk⟩ := hpo.get
    have HF := Lib.hid (FmQ.ofS (g6 := w6.heap.size) hf HD.out.ltW (.inr (Nat.le_refl _)))
    replace HLIST := Lib.hid (BdQ.ofS (g6 := w6.heap.size) (HLIST.out.keep hk HGL.out) HGL.out (.inr (Nat.le_refl _)))
    replace HR := Lib.hid (hk.blk HR.out (fun e => HGR.out e.symm) (by simp))
    replace HD := Lib.hid (HD.out.call hi hb hk)
    clear hi hb hk hf hpo
    go_wp2_with fail
    have bn := below_new w6 (.cells #[.int .i64 a.f0, .string a.f1, .int .i64 a.f2, .slice A_3 a.f3.length A_c3, .slice A_4 a.f4.length A_c4] 30)
    have HGB := Lib.hid (show w6.heap.size ≠ g from by have := HD.out.ltW; omega)
    have HGB3 := Lib.hid (show g < w6.heap.size from HD.out.ltW)
    have HGB4 := Lib.hid (show w2.heap.size ≤ w6.heap.size from HD.out.size)
    have HGB2 := Lib.hid (show w.heap.size < w6.heap.size from by have := HD.out.size; have := HRL.out; omega)
    refine (pick_at HE3.out g w _ (HD.out.later bn).is (HD.out.later bn).b).mono ?_
    rintro e w7 ⟨rfl, hi, hb, hk⟩
    have HK := Lib.hid (show w7.heap[w6.heap.size]? = some (.cells #[.int .i64 a.f0, .string a.f1, .int .i64 a.f2, .slice A_3 a.f3.length A_c3, .slice A_4 a.f4.length A_c4] 30) from hk.blk (blk_new w6 _) HGB.out (by simp))
    replace HF := Lib.hid ((HF.out.later bn).keep hk)
    replace HLIST := Lib.hid ((HLIST.out.later bn).keep hk)
    replace HR := Lib.hid (hk.blk (blk_below HR.out bn) (fun e => HGR.out e.symm) (by simp))
    replace HD := Lib.hid ((HD.out.later bn).call hi hb hk)
    clear hi hb hk bn
    go_wp2_with fail
    refine (pick_at HE16.out g w w7 HD.out.is HD.out.b).mono ?_
    rintro e w8 ⟨rfl, hi, hb, hk⟩
    replace HF := Lib.hid (HF.out.keep hk)
    replace HLIST := Lib.hid (HLIST.out.keep hk)
    replace HR := Lib.hid (hk.blk HR.out (fun e => HGR.out e.symm) (by simp))
    replace HK := Lib.hid (hk.blk HK.out HGB.out (by simp))
    replace HD := Lib.hid (HD.out.call hi hb hk)
    clear hi hb hk
    go_wp2_with fail
    have HDD := Lib.hid (HD.out.later (below_drew (Below.refl _ _)))
    have HKD := Lib.hid (blk_drew HK.out)
    have HRD := Lib.hid (blk_drew HR.out)
    have HFD := Lib.hid (HF.out.later (below_drew (Below.refl _ _)))
    have HLD := Lib.hid (HLIST.out.later (below_drew (Below.refl _ _)))
    clear HK HR HF HLIST HD
    refine start_ (n := 10) (S := (fun W : World => W.cell? ⟨w6.heap.size, 0, none⟩ = some (.int .i64 a.f0) ∧ W.cell? ⟨w6.heap.size, 1, none⟩ = some (.string a.f1) ∧ W.cell? ⟨w6.heap.size, 2, none⟩ = some (.int .i64 a.f2) ∧ W.cell? ⟨w6.heap.size, 3, none⟩ = some (.slice A_3 a.f3.length A_c3) ∧ W.cell? ⟨w6.heap.size, 4, none⟩ = some (.slice A_4 a.f4.length A_c4))) (ds := []) #[false, false, false, false, false, false, false, false, false, false] (by kernel_rfl) rfl rfl (fm_cells HKD.out) (fun hHeld => ?_)
    generalize w8.drew = wd at HDD HKD HRD HFD HLD hHeld ⊢
    refine pure_ (i := 0) (N := some 25) (v := ?_) (a' := ?_) #[true, false, false, false, false, false, false, false, false, false] rfl rfl (by kernel_rfl) (fun _ _ _ h => h) (Or.inl ⟨by rfl, ?_⟩) ?_ ?_
    rotate_left
    · intro w'
      go_simp
      with_reducible rfl
    rotate_left
    · simp only [Act.put, List.setIfInBounds_toArray, List.set_cons_zero, List.set_cons_succ, i64_w, i32_w]
      rfl
    refine pure_ (i := 1) (N := some 26) (v := ?_) (a' := ?_) #[true, true, false, false, false, false, false, false, false, false] rfl rfl (by kernel_rfl) (fun _ _ _ h => h) (Or.inl ⟨by rfl, ?_⟩) ?_ ?_
    rotate_left
    · intro w'
      go_simp
      with_reducible rfl
    rotate_left
    · simp only [Act.put, List.setIfInBounds_toArray, List.set_cons_zero, List.set_cons_succ, i64_w, i32_w]
      rfl
    refine pure_ (i := 2) (N := some 27) (v := ?_) (a' := ?_) #[true, true, true, false, false, false, false, false, false, false] rfl rfl (by kernel_rfl) (fun _ _ _ h => h) (Or.inl ⟨by rfl, ?_⟩) ?_ ?_
    rotate_left
    · intro w'
      go_simp
      with_reducible rfl
    rotate_left
    · simp only [Act.put, List.setIfInBounds_toArray, List.set_cons_zero, List.set_cons_succ, i64_w, i32_w]
      rfl
    refine pure_ (i := 5) (N := some 30) (v := ?_) (a' := ?_) #[true, true, true, false, false, true, false, false, false, false] rfl rfl (by kernel_rfl) (fun _ _ _ h => h) (Or.inl ⟨by rfl, ?_⟩) ?_ ?_
    rotate_left
    · intro w'
      go_simp
      with_reducible rfl
    rotate_left
    · simp only [Act.put, List.setIfInBounds_toArray, List.set_cons_zero, List.set_cons_succ, i64_w, i32_w]
      rfl
    refine take_ (i := 6) (N := some 31) (v := ?_) (a' := ?_) #[true, true, true, false, false, true, true, false, false, false] rfl rfl (by kernel_rfl) (fun _ _ _ h => h) (Or.inl ⟨by rfl, ?_⟩) hHeld ?_ ?_
    rotate_left
    · rintro w' ⟨s0, s1, s2, s3, s4⟩
      go_simp
      with_reducible rfl
    rotate_left
    · simp only [Act.put, List.setIfInBounds_toArray, List.set_cons_zero, List.set_cons_succ, i64_w, i32_w]
      rfl
    refine one_ (i := 3) (N := some 28) #[true, true, true, true, false, true, true, false, false, false] rfl rfl (by kernel_rfl) (by decide) (fun K hK => ?_)
    refine goes_ Try.func40 (by kernel_rfl) rfl #[.pointer (some ⟨g, 0, none⟩), .slice L_A bl.length L_c] (by rfl) rfl rfl (by (try simp only [List.map_toArray, List.map_cons, List.map_nil]); first | done | rfl) ?_
    refine (HW1.out g w wd L_A L_c HDD.out.is HDD.out.b HLD.out.now HLD.out.le).mono ?_
    rintro e w9 ⟨M_A, M_c, rfl, hbs, hi, hb, hk⟩
    have HMD := Lib.hid (BdQ.ofS (g6 := w6.heap.size) hbs HDD.out.ltW (.inl (blk_lt HKD.out)))
    clear hbs
    refine ⟨_, rfl, ?_⟩
    replace HKD := Lib.hid (hk.blk HKD.out HGB.out (by simp))
    replace HRD := Lib.hid (hk.blk HRD.out (fun e => HGR.out e.symm) (by simp))
    replace HFD := Lib.hid (HFD.out.keep hk)
    replace HDD := Lib.hid (HDD.out.call hi hb hk)
    clear hi hb hk
    refine hK.out _ _ (fm_cells HKD.out) (fun hHeld => ?_)
    clear hK K
    refine norm_ (a' := ?_) ?_ ?_
    rotate_left
    · show Act.put _ (some 28) _ = _
      simp only [Act.put, List.setIfInBounds_toArray, List.set_cons_zero, List.set_cons_succ, i64_w, i32_w]
      rfl
    refine one_ (i := 4) (N := some 29) #[true, true, true, true, true, true, true, false, false, false] rfl rfl (by kernel_rfl) (by decide) (fun K hK => ?_)
    refine goes_ Try.func40 (by kernel_rfl) rfl #[.pointer (some ⟨g, 0, none⟩), .slice M_A bl1.length M_c] (by rfl) rfl rfl (by (try simp only [List.map_toArray, List.map_cons, List.map_nil]); first | done | rfl) ?_
    refine (HW2.out g w w9 M_A M_c HDD.out.is HDD.out.b HMD.out.now HMD.out.le).mono ?_
    rintro e w10 ⟨N_A, N_c, rfl, hbs, hi, hb, hk⟩
    have HND := Lib.hid (BdQ.ofS (g6 := w6.heap.size) hbs HDD.out.ltW (.inl (blk_lt HKD.out)))
    clear hbs
    refine ⟨_, rfl, ?_⟩
    replace HKD := Lib.hid (hk.blk HKD.out HGB.out (by simp))
    replace HRD := Lib.hid (hk.blk HRD.out (fun e => HGR.out e.symm) (by simp))
    replace HFD := Lib.hid (HFD.out.keep hk)
    replace HDD := Lib.hid (HDD.out.call hi hb hk)
    clear hi hb hk
    refine hK.out _ _ (fm_cells HKD.out) (fun hHeld => ?_)
    clear hK K
    refine norm_ (a' := ?_) ?_ ?_
    rotate_left
    · show Act.put _ (some 29) _ = _
      simp only [Act.put, List.setIfInBounds_toArray, List.set_cons_zero, List.set_cons_succ, i64_w, i32_w]
      rfl
    refine one_ (i := 7) (N := some 32) #[true, true, true, true, true, true, true, true, false, false] rfl rfl (by kernel_rfl) (by decide) (fun K hK => ?_)
    refine goes_ Try.func80 (by kernel_rfl) rfl #[.pointer (some ⟨g, 0, none⟩), .agg #[.int .i64 a.f0, .string a.f1, .int .i64 a.f2, .slice A_3 a.f3.length A_c3, .slice A_4 a.f4.length A_c4]] (by rfl) rfl rfl (by (try simp only [List.map_toArray, List.map_cons, List.map_nil]); first | done | rfl) ?_
    refine (HM.out g A_3 A_c3 A_4 A_c4 w w10 HDD.out.is HDD.out.b HFD.out.now).mono ?_
    intro e w11 hpo
    obtain ⟨Y_3, Y_c3, Y_4, Y_c4, rfl, hf, hi, hb, hk⟩ := hpo.get
    have HYD := Lib.hid (FmQ.ofS (g6 := w6.heap.size) hf HDD.out.ltW (.inl (blk_lt HKD.out)))
    clear hf hpo
    refine ⟨_, rfl, ?_⟩
    replace HKD := Lib.hid (hk.blk HKD.out HGB.out (by simp))
    replace HRD := Lib.hid (hk.blk HRD.out (fun e => HGR.out e.symm) (by simp))
    replace HFD := Lib.hid (HFD.out.keep hk)
    replace HND := Lib.hid (HND.out.keep hk)
    replace HDD := Lib.hid (HDD.out.call hi hb hk)
    clear hi hb hk
    refine hK.out _ _ (fm_cells HKD.out) (fun hHeld => ?_)
    clear hK K
    refine norm_ (a' := ?_) ?_ ?_
    rotate_left
    · show Act.put _ (some 32) _ = _
      simp only [Act.put, List.setIfInBounds_toArray, List.set_cons_zero, List.set_cons_succ, i64_w, i32_w]
      rfl
    refine pure_ (i := 8) (N := some 2) (v := ?_) (a' := ?_) #[true, true, true, true, true, true, true, true, true, false] rfl rfl (by kernel_rfl) (fun _ _ _ h => h) (Or.inl ⟨by rfl, ?_⟩) ?_ ?_
    rotate_left
    · intro w'
      go_simp
      with_reducible rfl
    rotate_left
    · simp only [Act.put, List.setIfInBounds_toArray, List.set_cons_zero, List.set_cons_succ, i64_w, i32_w]
      rfl
    obtain ⟨z0, z1, z2, z3, z4⟩ := fm_cells HRD.out
    obtain ⟨f0, f1, f2, f3, f4⟩ := fm_free HRD.out
    obtain ⟨st1, st2, st3⟩ := st5 HRD.out (.int .i64 y.f0) (.string y.f1) (.int .i64 y.f2) (.slice Y_3 y.f3.length Y_c3) (.slice Y_4 y.f4.length Y_c4)
    have K5 := Lib.hid ((st2 w6.heap.size (by have := HGB2.out; omega)).trans HKD.out)
    have R2 := Lib.hid st1
    have FA := Lib.hid (HYD.out.move (st3 0 w11 (Below.refl 0 _) (Nat.zero_le _)).size (fun b h1 _ h2 => st2 b (by have := HGE.out; omega)))
    have LL := Lib.hid (HND.out.move (st3 0 w11 (Below.refl 0 _) (Nat.zero_le _)).size (fun b h1 _ h2 => st2 b (by have := HGE.out; omega)))
    have BB := Lib.hid (st3 _ _ HDD.out.b (Nat.le_refl _))
    clear st1 st2 st3
    refine one_ (i := 9) (N := none) #[true, true, true, true, true, true, true, true, true, true] rfl rfl (by kernel_rfl) (by decide) (fun K hK => ?_)
    refine skip_ (w1 := ?_) (by rfl) rfl ?_ ?_
    rotate_left
    · go_simp
      rfl
    refine hK.out _ _ (fm_cells K5.out) (fun hHeld => ?_)
    clear hK K z0 z1 z2 z3 z4 f0 f1 f2 f3 f4
    generalize World.setCell (World.setCell (World.setCell (World.setCell (World.setCell w11 _ _) _ _) _ _) _ _) _ _ = wx at K5 R2 FA LL BB hHeld ⊢
    refine done_ (by kernel_rfl) ?_
    obtain ⟨z0, z1, z2, z3, z4⟩ := fm_cells R2.out
    try go_wp2_with fail
    refine bodyPost_ret (v := .tuple #[.slice N_A bl2.length N_c, .agg #[.int .i64 y.f0, .string y.f1, .int .i64 y.f2, .slice Y_3 y.f3.length Y_c3, .slice Y_4 y.f4.length Y_c4]]) (by simp [results, Try.results51, go_sem, z0, z1, z2, z3, z4]) rfl ?_
    exact ⟨_, _, _, _, _, _, rfl, LL.out.toS HGE.out, FA.out.toS HGE.out, BB.out⟩
  · have t3 : (v3 == 0) = false := beq_eq_false_iff_ne.mpr v30
    have t16 : (v16 == 0) = false := beq_eq_false_iff_ne.mpr v160
    refine ⟨bl, a, hbl.more (by omega), by omega, fun A c w hr hc => ?_⟩
    clear hs hq0 hq1 hq9 n1 hat has v30 v160 hbl
    go_enter Try.func51, Try.ntmps51
    go_wp2_with fail
    refine (HO.out A c w _ (below_new _ _) hr hc).mono ?_
    rintro e w2 ⟨g, rfl, hi, hb, hb2⟩
    obtain ⟨kr, hbw⟩ := one_new hb2
    have HD := Lib.hid (Dr.new hi hb)
    have HGR := Lib.hid (show g ≠ w.heap.size from Q.IsS78.ne_blk hi kr (by decide))
    have HGE := Lib.hid (show w.heap.size ≤ g from Q.IsS78.ge hi)
    have HR := Lib.hid kr
    have HRL := Lib.hid (blk_lt kr)
    clear hi hb hb2 kr hbw
    go_wp2_with fail
    refine (HDRAW.out g w w2 HD.out.is HD.out.b).mono ?_
    rintro e w3 ⟨L_A, L_c, rfl, hbs, hi, hb, hk⟩
    have HLIST := Lib.hid hbs
    have HGL := Lib.hid (show g < w2.heap.size from HD.out.lt)
    replace HR := Lib.hid (hk.blk HR.out (fun e => HGR.out e.symm) (by simp))
    replace HD := Lib.hid (HD.out.call hi hb hk)
    clear hbs hi hb hk
    go_wp2_with fail
    refine (of_lit (l := nm4) rfl (by simp) HE1.out g w w3 HD.out.is HD.out.b).mono ?_
    rintro e w4 ⟨rfl, hi, hb, hk⟩
    replace HLIST := Lib.hid (HLIST.out.keep hk HGL.out)
    replace HR := Lib.hid (hk.blk HR.out (fun e => HGR.out e.symm) (by simp))
    replace HD := Lib.hid (HD.out.call hi hb hk)
    clear hi hb hk
    go_wp2_with fail
    refine (l1Name_any nm w4).mono ?_
    rintro e w5 ⟨rfl, hb⟩
    replace HLIST := Lib.hid (HLIST.out.later hb)
    replace HR := Lib.hid (blk_below HR.out hb)
    replace HD := Lib.hid (HD.out.later hb)
    clear hb
    go_wp2_with fail
    refine (HS1.out g none 0 none 0 w w5 HD.out.is HD.out.b (lnm_in nm w5)).mono ?_
    intro e w6 hpo
    obtain ⟨A_3, A_c3, A_4, A_c4, rfl, hf, hi, hb, hk⟩ := hpo.get
    have HF := Lib.hid (FmQ.ofS (g6 := w6.heap.size) hf HD.out.ltW (.inr (Nat.le_refl _)))
    replace HLIST := Lib.hid (BdQ.ofS (g6 := w6.heap.size) (HLIST.out.keep hk HGL.out) HGL.out (.inr (Nat.le_refl _)))
    replace HR := Lib.hid (hk.blk HR.out (fun e => HGR.out e.symm) (by simp))
    replace HD := Lib.hid (HD.out.call hi hb hk)
    clear hi hb hk hf hpo
    go_wp2_with fail
    have bn := below_new w6 (.cells #[.int .i64 a.f0, .string a.f1, .int .i64 a.f2, .slice A_3 a.f3.length A_c3, .slice A_4 a.f4.length A_c4] 30)
    have HGB := Lib.hid (show w6.heap.size ≠ g from by have := HD.out.ltW; omega)
    have HGB3 := Lib.hid (show g < w6.heap.size from HD.out.ltW)
    have HGB4 := Lib.hid (show w2.heap.size ≤ w6.heap.size from HD.out.size)
    have HGB2 := Lib.hid (show w.heap.size < w6.heap.size from by have := HD.out.size; have := HRL.out; omega)
    refine (pick_at HE3.out g w _ (HD.out.later bn).is (HD.out.later bn).b).mono ?_
    rintro e w7 ⟨rfl, hi, hb, hk⟩
    have HK := Lib.hid (show w7.heap[w6.heap.size]? = some (.cells #[.int .i64 a.f0, .string a.f1, .int .i64 a.f2, .slice A_3 a.f3.length A_c3, .slice A_4 a.f4.length A_c4] 30) from hk.blk (blk_new w6 _) HGB.out (by simp))
    replace HF := Lib.hid ((HF.out.later bn).keep hk)
    replace HLIST := Lib.hid ((HLIST.out.later bn).keep hk)
    replace HR := Lib.hid (hk.blk (blk_below HR.out bn) (fun e => HGR.out e.symm) (by simp))
    replace HD := Lib.hid ((HD.out.later bn).call hi hb hk)
    clear hi hb hk bn
    go_wp2_with fail
    refine (pick_at HE16.out g w w7 HD.out.is HD.out.b).mono ?_
    rintro e w8 ⟨rfl, hi, hb, hk⟩
    replace HF := Lib.hid (HF.out.keep hk)
    replace HLIST := Lib.hid (HLIST.out.keep hk)
    replace HR := Lib.hid (hk.blk HR.out (fun e => HGR.out e.symm) (by simp))
    replace HK := Lib.hid (hk.blk HK.out HGB.out (by simp))
    replace HD := Lib.hid (HD.out.call hi hb hk)
    clear hi hb hk
    go_wp2_with fail
    have HDD := Lib.hid (HD.out.later (below_drew (Below.refl _ _)))
    have HKD := Lib.hid (blk_drew HK.out)
    have HRD := Lib.hid (blk_drew HR.out)
    have HFD := Lib.hid (HF.out.later (below_drew (Below.refl _ _)))
    have HLD := Lib.hid (HLIST.out.later (below_drew (Below.refl _ _)))
    clear HK HR HF HLIST HD
    refine start_ (n := 4) (S := (fun W : World => W.cell? ⟨w6.heap.size, 0, none⟩ = some (.int .i64 a.f0) ∧ W.cell? ⟨w6.heap.size, 1, none⟩ = some (.string a.f1) ∧ W.cell? ⟨w6.heap.size, 2, none⟩ = some (.int .i64 a.f2) ∧ W.cell? ⟨w6.heap.size, 3, none⟩ = some (.slice A_3 a.f3.length A_c3) ∧ W.cell? ⟨w6.heap.size, 4, none⟩ = some (.slice A_4 a.f4.length A_c4))) (ds := []) #[false, false, false, false] (by kernel_rfl) rfl rfl (fm_cells HKD.out) (fun hHeld => ?_)
    generalize w8.drew = wd at HDD HKD HRD HFD HLD hHeld ⊢
    refine pure_ (i := 0) (N := some 33) (v := ?_) (a' := ?_) #[true, false, false, false] rfl rfl (by kernel_rfl) (fun _ _ _ h => h) (Or.inl ⟨by rfl, ?_⟩) ?_ ?_
    rotate_left
    · intro w'
      go_simp
      with_reducible rfl
    rotate_left
    · simp only [Act.put, List.setIfInBounds_toArray, List.set_cons_zero, List.set_cons_succ, i64_w, i32_w]
      rfl
    refine take_ (i := 1) (N := some 34) (v := ?_) (a' := ?_) #[true, true, false, false] rfl rfl (by kernel_rfl) (fun _ _ _ h => h) (Or.inl ⟨by rfl, ?_⟩) hHeld ?_ ?_
    rotate_left
    · rintro w' ⟨s0, s1, s2, s3, s4⟩
      go_simp
      with_reducible rfl
    rotate_left
    · simp only [Act.put, List.setIfInBounds_toArray, List.set_cons_zero, List.set_cons_succ, i64_w, i32_w]
      rfl
    refine pure_ (i := 2) (N := some 2) (v := ?_) (a' := ?_) #[true, true, true, false] rfl rfl (by kernel_rfl) (fun _ _ _ h => h) (Or.inl ⟨by rfl, ?_⟩) ?_ ?_
    rotate_left
    · intro w'
      go_simp
      with_reducible rfl
    rotate_left
    · simp only [Act.put, List.setIfInBounds_toArray, List.set_cons_zero, List.set_cons_succ, i64_w, i32_w]
      rfl
    obtain ⟨z0, z1, z2, z3, z4⟩ := fm_cells HRD.out
    obtain ⟨f0, f1, f2, f3, f4⟩ := fm_free HRD.out
    obtain ⟨st1, st2, st3⟩ := st5 HRD.out (.int .i64 a.f0) (.string a.f1) (.int .i64 a.f2) (.slice A_3 a.f3.length A_c3) (.slice A_4 a.f4.length A_c4)
    have K5 := Lib.hid ((st2 w6.heap.size (by have := HGB2.out; omega)).trans HKD.out)
    have R2 := Lib.hid st1
    have FA := Lib.hid (HFD.out.move (st3 0 wd (Below.refl 0 _) (Nat.zero_le _)).size (fun b h1 _ h2 => st2 b (by have := HGE.out; omega)))
    have LL := Lib.hid (HLD.out.move (st3 0 wd (Below.refl 0 _) (Nat.zero_le _)).size (fun b h1 _ h2 => st2 b (by have := HGE.out; omega)))
    have BB := Lib.hid (st3 _ _ HDD.out.b (Nat.le_refl _))
    clear st1 st2 st3
    refine one_ (i := 3) (N := none) #[true, true, true, true] rfl rfl (by kernel_rfl) (by decide) (fun K hK => ?_)
    refine skip_ (w1 := ?_) (by rfl) rfl ?_ ?_
    rotate_left
    · go_simp
      rfl
    refine hK.out _ _ (fm_cells K5.out) (fun hHeld => ?_)
    clear hK K z0 z1 z2 z3 z4 f0 f1 f2 f3 f4
    generalize World.setCell (World.setCell (World.setCell (World.setCell (World.setCell wd _ _) _ _) _ _) _ _) _ _ = wx at K5 R2 FA LL BB hHeld ⊢
    refine done_ (by kernel_rfl) ?_
    obtain ⟨z0, z1, z2, z3, z4⟩ := fm_cells R2.out
    try go_wp2_with fail
    refine bodyPost_ret (v := .tuple #[.slice L_A bl.length L_c, .agg #[.int .i64 a.f0, .string a.f1, .int .i64 a.f2, .slice A_3 a.f3.length A_c3, .slice A_4 a.f4.length A_c4]]) (by simp [results, Try.results51, go_sem, z0, z1, z2, z3, z4]) rfl ?_
    exact ⟨_, _, _, _, _, _, rfl, LL.out.toS HGE.out, FA.out.toS HGE.out, BB.out⟩
end Go.Proofs.Ytcbomlmlindjdaa
end
section
namespace Go.Proofs.Ytcbomlmlindjdaa
open Go.RowKit Go.Proofs.YtcbomlmlindjdaaW.PrintWords Go.Proofs.YtcbomlmlindjdaaW.PrintLast Go.Proofs.YtcbomlmlindjdaaW.PrintMore
set_option linter.unusedVariables false
set_option linter.unusedSimpArgs false
theorem BdS.far {lo : Nat} {w W : World} {l : List Bd} {A : Option Addr} {c k : Nat} (h : BdS lo w l A c) (hs : w.heap.size ≤ W.heap.size) (hm : ∀ b, b ≠ k → W.heap[b]? = w.heap[b]?) (hk : k < lo) : BdS lo W l A c := h.move hs (fun b h1 _ => hm b (by omega))
theorem FmS.far {lo : Nat} {w W : World} {x : Fm} {A3 A4 : Option Addr} {c3 c4 k : Nat} (h : FmS lo w x A3 c3 A4 c4) (hs : w.heap.size ≤ W.heap.size) (hm : ∀ b, b ≠ k → W.heap[b]? = w.heap[b]?) (hk : k < lo) : FmS lo W x A3 c3 A4 c4 := h.move hs (fun b h1 _ => hm b (by omega))
/-- Bindings and a form are handed back: they read. -/
def GetBf (w : World) (bl : List Bd) (x : Fm) (e : Ending) (w' : World) : Prop := ∃ A c A3 c3 A4 c4, e = .returned (.tuple #[.slice A bl.length c, .agg #[.int .i64 x.f0, .string x.f1, .int .i64 x.f2, .slice A3 x.f3.length c3, .slice A4 x.f4.length c4]]) ∧ bl.length ≤ c ∧ kB.C w' A bl.length bl ∧ FmIn w' x A3 c3 A4 c4 ∧ Below w.heap.size w w'
def GetBfn (w : World) (bl : List Bd) (x : Fm) (n : Int) (e : Ending) (w' : World) : Prop := ∃ A c A3 c3 A4 c4, e = .returned (.tuple #[.slice A bl.length c, .agg #[.int .i64 x.f0, .string x.f1, .int .i64 x.f2, .slice A3 x.f3.length c3, .slice A4 x.f4.length c4], .int .i64 n]) ∧ bl.length ≤ c ∧ kB.C w' A bl.length bl ∧ FmIn w' x A3 c3 A4 c4 ∧ Below w.heap.size w w'
def GetBff (w : World) (bl : List Bd) (x y : Fm) (e : Ending) (w' : World) : Prop := ∃ A c A3 c3 A4 c4 B3 d3 B4 d4, e = .returned (.tuple #[.slice A bl.length c, .agg #[.int .i64 x.f0, .string x.f1, .int .i64 x.f2, .slice A3 x.f3.length c3, .slice A4 x.f4.length c4], .agg #[.int .i64 y.f0, .string y.f1, .int .i64 y.f2, .slice B3 y.f3.length d3, .slice B4 y.f4.length d4]]) ∧ bl.length ≤ c ∧ kB.C w' A bl.length bl ∧ FmIn w' x A3 c3 A4 c4 ∧ FmIn w' y B3 d3 B4 d4 ∧ Below w.heap.size w w'
/-- Bindings are handed back. -/
def GetBl (w : World) (bl : List Bd) (e : Ending) (w' : World) : Prop := ∃ A c, e = .returned (.slice A bl.length c) ∧ bl.length ≤ c ∧ kB.C w' A bl.length bl ∧ Below w.heap.size w w'
set_option maxHeartbeats 8000000 in
set_option maxRecDepth 100000 in
theorem dDrawSameReference (l : List Int) (hl : ∀ z, z ∈ l → 0 ≤ z ∧ z < 256) : ∃ (bl : List Bd) (x y : Fm), SmD 102 bl ∧ x.tot ≤ 7000 ∧ y.tot ≤ 7000 ∧ ∀ (A : Option Addr) (c : Nat) (w : World), (Kd.int .u8).C w A l.length l → l.length ≤ c → Calls Try.prog 27 #[.slice A l.length c] w (GetBff w bl x y) := by
  obtain ⟨bl, x, h1, h2, hd⟩ := l3Case_ex l hl
  obtain ⟨s, hs, hopen⟩ := open_at l hl
  obtain ⟨nm, hnm, e1⟩ := ev_of hs 0 (by omega) [(⟨#[120]⟩ : ByteArray), ⟨#[121]⟩] (by simp) (by simp)
  have n1 := nm_small hnm
  have ht1 : (lnm nm).tot = nm.size + 0 + 0 := Fm.tot_eq _
  have hs1 : (lnm nm).size = 1 + 0 := Fm.size_eq _
  obtain ⟨b, q1, hq1, b1, _, _, c1⟩ := dress_ex hs (lnm nm) (by omega) 1 (by omega)
  obtain ⟨v3, hv3, e3⟩ := ev_pick hs q1 (by omega) 3 (by omega)
  have HO := Lib.hid hopen
  have HE1 := Lib.hid e1
  have HS1 := Lib.hid c1
  have HE3 := Lib.hid e3
  have hbt : b.tot ≤ 7000 := by omega
  clear hopen e1 c1 e3 hnm hv3 b1 ht1 hs1 hq1 n1 hs
  by_cases v30 : v3 = 0
  · have t3 : (v3 == 0) = true := beq_iff_eq.mpr v30
    refine ⟨bl, x, x, h1, h2, h2, fun A c w hr hc => ?_⟩
    have HXT := Lib.hid h2
    clear v30 h1 h2 hbt
    have HC := Lib.hid (hd A c ((w.alloc (.cells #[.int .i64 0, .string ⟨#[]⟩, .int .i64 0, .slice none 0 0, .slice none 0 0] 30)).alloc (.cells #[.int .i64 0, .string ⟨#[]⟩, .int .i64 0, .slice none 0 0, .slice none 0 0] 30)) (Kd.C_below hr (below_step (below_new _ _) (below_new _ _))) hc)
    have HRD := Lib.hid hr
    clear hd hr
    go_enter Try.func27, Try.ntmps27
    go_wp2_with fail
    refine HC.out.mono ?_
    rintro e w2 ⟨L_A, L_c, X_3, X_c3, X_4, X_c4, rfl, hbs, hf, hb⟩
    obtain ⟨kr2, kr3, hbw⟩ := two_new hb
    have hlo : ((w.alloc (.cells #[.int .i64 0, .string ⟨#[]⟩, .int .i64 0, .slice none 0 0, .slice none 0 0] 30)).alloc (.cells #[.int .i64 0, .string ⟨#[]⟩, .int .i64 0, .slice none 0 0, .slice none 0 0] 30)).heap.size = w.heap.size + 2 := by simp
    rw [hlo] at hbs hf
    have b5 := below_new w2 (.cells #[.int .i64 x.f0, .string x.f1, .int .i64 x.f2, .slice X_3 x.f3.length X_c3, .slice X_4 x.f4.length X_c4] 30)
    have HR2 := Lib.hid (blk_below kr2 b5)
    have HR3 := Lib.hid (blk_below kr3 b5)
    have HRL := Lib.hid (show w.heap.size + 1 < w2.heap.size from blk_lt kr3)
    have HF := Lib.hid (hf.later b5)
    have HL := Lib.hid (hbs.later b5)
    have HK := Lib.hid (blk_new w2 (.cells #[.int .i64 x.f0, .string x.f1, .int .i64 x.f2, .slice X_3 x.f3.length X_c3, .slice X_4 x.f4.length X_c4] 30))
    have HBW := Lib.hid (below_step hbw b5)
    have HSZ := Lib.hid (show (w2.alloc (.cells #[.int .i64 x.f0, .string x.f1, .int .i64 x.f2, .slice X_3 x.f3.length X_c3, .slice X_4 x.f4.length X_c4] 30)).heap.size = w2.heap.size + 1 from by simp)
    clear hbs hf hb kr2 kr3 hbw b5 hlo HC
    go_wp2_with fail
    generalize w2.alloc (.cells #[.int .i64 x.f0, .string x.f1, .int .i64 x.f2, .slice X_3 x.f3.length X_c3, .slice X_4 x.f4.length X_c4] 30) = wz at HR2 HR3 HF HL HK HBW HSZ ⊢
    refine (HO.out A c wz wz (Below.refl _ _) (Kd.C_below HRD.out HBW.out) hc).mono ?_
    rintro e w6 ⟨g, rfl, hi, hb, hb2⟩
    have HD := Lib.hid (Dr.new hi hb)
    have HGE := Lib.hid (show wz.heap.size ≤ g from Q.IsS78.ge hi)
    clear hi hb hb2
    go_wp2_with fail
    refine (of_lit (l := [(⟨#[120]⟩ : ByteArray), ⟨#[121]⟩]) rfl (by simp) HE1.out g wz w6 HD.out.is HD.out.b).mono ?_
    rintro e w7 ⟨rfl, hi, hb, hk⟩
    replace HD := Lib.hid (HD.out.call hi hb hk)
    clear hi hb hk
    go_wp2_with fail
    refine (l1Name_any nm w7).mono ?_
    rintro e w8 ⟨rfl, hb⟩
    replace HD := Lib.hid (HD.out.later hb)
    clear hb
    go_wp2_with fail
    refine (HS1.out g none 0 none 0 wz w8 HD.out.is HD.out.b (lnm_in nm w8)).mono ?_
    intro e w9 hpo
    obtain ⟨B_3, B_c3, B_4, B_c4, rfl, hf, hi, hb, hk⟩ := hpo.get
    have HG9 := Lib.hid (show g < w8.heap.size from HD.out.ltW)
    replace HD := Lib.hid (HD.out.call hi hb hk)
    have bn := below_new w9 (.cells #[.int .i64 b.f0, .string b.f1, .int .i64 b.f2, .slice B_3 b.f3.length B_c3, .slice B_4 b.f4.length B_c4] 30)
    have HFB := Lib.hid ((hf.low (show g + 1 ≤ w8.heap.size from HG9.out)).later bn)
    have HKB := Lib.hid (blk_new w9 (.cells #[.int .i64 b.f0, .string b.f1, .int .i64 b.f2, .slice B_3 b.f3.length B_c3, .slice B_4 b.f4.length B_c4] 30))
    have HG9b := Lib.hid (show g < w9.heap.size from HD.out.ltW)
    replace HD := Lib.hid (HD.out.later bn)
    clear hi hb hk hf hpo bn
    go_wp2_with fail
    generalize w9.alloc (.cells #[.int .i64 b.f0, .string b.f1, .int .i64 b.f2, .slice B_3 b.f3.length B_c3, .slice B_4 b.f4.length B_c4] 30) = wy at HFB HKB HD ⊢
    refine (pick_at HE3.out g wz wy HD.out.is HD.out.b).mono ?_
    rintro e w10 ⟨rfl, hi, hb, hk⟩
    replace HFB := Lib.hid (HFB.out.keep hk (Nat.lt_succ_self _))
    replace HKB := Lib.hid (hk.blk HKB.out (by have := HG9b.out; omega) (by simp))
    replace HD := Lib.hid (HD.out.call hi hb hk)
    clear hi hb hk
    obtain ⟨p0, p1, p2, p3, p4⟩ := fm_cells (blk_below HK.out HD.out.b)
    go_wp2_with fail
    clear p0 p1 p2 p3 p4
    refine (l1Copy_any x X_3 X_c3 X_4 X_c4 w10 (HF.out.later HD.out.b).now (by have := HXT.out; omega)).mono ?_
    rintro e w11 ⟨v3', v4', rfl, hn, hb0⟩
    obtain ⟨Y_3, Y_c3, Y_4, Y_c4, rfl, rfl, hf⟩ := NewF.toS hn
    have HK1 := Lib.hid (blk_below HKB.out hb0)
    have HLT := Lib.hid (blk_lt HKB.out)
    have HB1 := Lib.hid (below_step HD.out.b hb0)
    have HF1 := Lib.hid hf
    have HGW := Lib.hid (show g < w10.heap.size from HD.out.ltW)
    clear hf hn hb0 HKB HFB HD
    obtain ⟨z0, z1, z2, z3, z4⟩ := fm_cells HK1.out
    obtain ⟨f0, f1, f2, f3, f4⟩ := fm_free HK1.out
    obtain ⟨st1, st2, st3⟩ := st5 HK1.out (.int .i64 x.f0) (.string x.f1) (.int .i64 x.f2) (.slice Y_3 x.f3.length Y_c3) (.slice Y_4 x.f4.length Y_c4)
    have HKB := Lib.hid st1
    have HFB := Lib.hid ((HF1.out.far (st3 0 w11 (Below.refl 0 _) (Nat.zero_le _)).size (fun b h => st2 b h) HLT.out).low (show g + 1 ≤ w10.heap.size from HGW.out))
    have HBD := Lib.hid (st3 _ _ HB1.out (show wz.heap.size ≤ w9.heap.size by have := HGE.out; have := HG9b.out; omega))
    clear st1 st2 st3
    go_wp2_with fail
    clear z0 z1 z2 z3 z4 f0 f1 f2 f3 f4 HK1 HF1 HB1
    have HBZ := Lib.hid (below_step HBD.out (below_drew (Below.refl _ _)))
    have HKB2 := Lib.hid (blk_drew HKB.out)
    have HFB2 := Lib.hid (HFB.out.later (below_drew (Below.refl _ _)))
    clear HKB HFB HBD
    have hS := fm_cells (blk_below HK.out HBZ.out)
    have hS2 := fm_cells HKB2.out
    refine start_ (n := 6) (S := (fun W : World => W.cell? ⟨w2.heap.size, 0, none⟩ = some (.int .i64 x.f0) ∧ W.cell? ⟨w2.heap.size, 1, none⟩ = some (.string x.f1) ∧ W.cell? ⟨w2.heap.size, 2, none⟩ = some (.int .i64 x.f2) ∧ W.cell? ⟨w2.heap.size, 3, none⟩ = some (.slice X_3 x.f3.length X_c3) ∧ W.cell? ⟨w2.heap.size, 4, none⟩ = some (.slice X_4 x.f4.length X_c4) ∧ W.cell? ⟨w9.heap.size, 0, none⟩ = some (.int .i64 x.f0) ∧ W.cell? ⟨w9.heap.size, 1, none⟩ = some (.string x.f1) ∧ W.cell? ⟨w9.heap.size, 2, none⟩ = some (.int .i64 x.f2) ∧ W.cell? ⟨w9.heap.size, 3, none⟩ = some (.slice Y_3 x.f3.length Y_c3) ∧ W.cell? ⟨w9.heap.size, 4, none⟩ = some (.slice Y_4 x.f4.length Y_c4))) (ds := []) #[false, false, false, false, false, false] (by kernel_rfl) rfl rfl ⟨hS.1, hS.2.1, hS.2.2.1, hS.2.2.2.1, hS.2.2.2.2, hS2⟩ (fun hHeld => ?_)
    clear hS hS2
    generalize World.drew _ = wd at HBZ HKB2 HFB2 hHeld ⊢
    refine pure_ (i := 0) (N := some 27) (v := ?_) (a' := ?_) #[true, false, false, false, false, false] rfl rfl (by kernel_rfl) (fun _ _ _ h => h) (Or.inl ⟨by rfl, ?_⟩) ?_ ?_
    rotate_left
    · intro w'
      go_simp
      with_reducible rfl
    rotate_left
    · simp only [Act.put, List.setIfInBounds_toArray, List.set_cons_zero, List.set_cons_succ, i64_w, i32_w]
      rfl
    refine take_ (i := 1) (N := some 28) (v := ?_) (a' := ?_) #[true, true, false, false, false, false] rfl rfl (by kernel_rfl) (fun _ _ _ h => h) (Or.inl ⟨by rfl, ?_⟩) hHeld ?_ ?_
    rotate_left
    · rintro w' ⟨s0, s1, s2, s3, s4, s5, s6, s7, s8, s9⟩
      go_simp
      with_reducible rfl
    rotate_left
    · simp only [Act.put, List.setIfInBounds_toArray, List.set_cons_zero, List.set_cons_succ, i64_w, i32_w]
      rfl
    refine take_ (i := 2) (N := some 29) (v := ?_) (a' := ?_) #[true, true, true, false, false, false] rfl rfl (by kernel_rfl) (fun _ _ _ h => h) (Or.inl ⟨by rfl, ?_⟩) hHeld ?_ ?_
    rotate_left
    · rintro w' ⟨s0, s1, s2, s3, s4, s5, s6, s7, s8, s9⟩
      go_simp
      with_reducible rfl
    rotate_left
    · simp only [Act.put, List.setIfInBounds_toArray, List.set_cons_zero, List.set_cons_succ, i64_w, i32_w]
      rfl
    refine pure_ (i := 3) (N := some 2) (v := ?_) (a' := ?_) #[true, true, true, true, false, false] rfl rfl (by kernel_rfl) (fun _ _ _ h => h) (Or.inl ⟨by rfl, ?_⟩) ?_ ?_
    rotate_left
    · intro w'
      go_simp
      with_reducible rfl
    rotate_left
    · simp only [Act.put, List.setIfInBounds_toArray, List.set_cons_zero, List.set_cons_succ, i64_w, i32_w]
      rfl
    obtain ⟨z0, z1, z2, z3, z4⟩ := fm_cells (blk_below HR2.out HBZ.out)
    obtain ⟨f0, f1, f2, f3, f4⟩ := fm_free (blk_below HR2.out HBZ.out)
    obtain ⟨st1, st2, st3⟩ := st5 (blk_below HR2.out HBZ.out) (.int .i64 x.f0) (.string x.f1) (.int .i64 x.f2) (.slice X_3 x.f3.length X_c3) (.slice X_4 x.f4.length X_c4)
    have hn2 : w2.heap.size ≠ w.heap.size := by have := HRL.out; omega
    have hn9 : w9.heap.size ≠ w.heap.size := by have := HRL.out; have := HSZ.out; have := HGE.out; have := HG9b.out; omega
    have hsz := (st3 0 wd (Below.refl 0 _) (Nat.zero_le _)).size
    have R2 := Lib.hid st1
    have R3 := Lib.hid ((st2 (w.heap.size + 1) (by omega)).trans (blk_below HR3.out HBZ.out))
    have K2 := Lib.hid ((st2 w2.heap.size hn2).trans (blk_below HK.out HBZ.out))
    have K9 := Lib.hid ((st2 w9.heap.size hn9).trans HKB2.out)
    have FA := Lib.hid ((HF.out.later HBZ.out).far hsz (fun b h => st2 b h) (show w.heap.size < w.heap.size + 2 by omega))
    have LL := Lib.hid ((HL.out.later HBZ.out).far hsz (fun b h => st2 b h) (show w.heap.size < w.heap.size + 2 by omega))
    have FB := Lib.hid (HFB2.out.far hsz (fun b h => st2 b h) (by have := HGE.out; have := HSZ.out; have := HRL.out; omega))
    have BB := Lib.hid (st3 _ _ (below_step HBW.out HBZ.out) (Nat.le_refl _))
    have hS := fm_cells K2.out
    have hS2 := fm_cells K9.out
    clear st1 st2 st3 hsz hn2 hn9
    refine one_ (i := 4) (N := none) #[true, true, true, true, true, false] rfl rfl (by kernel_rfl) (by decide) (fun K hK => ?_)
    refine skip_ (w1 := ?_) (by rfl) rfl ?_ ?_
    rotate_left
    · go_simp
      rfl
    refine hK.out _ _ ⟨hS.1, hS.2.1, hS.2.2.1, hS.2.2.2.1, hS.2.2.2.2, hS2⟩ (fun hHeld => ?_)
    clear hK K z0 z1 z2 z3 z4 f0 f1 f2 f3 f4 hS hS2
    generalize World.setCell (World.setCell (World.setCell (World.setCell (World.setCell wd _ _) _ _) _ _) _ _) _ _ = wx at R2 R3 K2 K9 FA LL FB BB hHeld ⊢
    obtain ⟨z0, z1, z2, z3, z4⟩ := fm_cells R3.out
    obtain ⟨f0, f1, f2, f3, f4⟩ := fm_free R3.out
    obtain ⟨st1, st2, st3⟩ := st5 R3.out (.int .i64 x.f0) (.string x.f1) (.int .i64 x.f2) (.slice Y_3 x.f3.length Y_c3) (.slice Y_4 x.f4.length Y_c4)
    have hn2 : w2.heap.size ≠ w.heap.size + 1 := by have := HRL.out; omega
    have hn9 : w9.heap.size ≠ w.heap.size + 1 := by have := HRL.out; have := HSZ.out; have := HGE.out; have := HG9b.out; omega
    have hsz := (st3 0 wx (Below.refl 0 _) (Nat.zero_le _)).size
    have R3' := Lib.hid st1
    have R2' := Lib.hid ((st2 w.heap.size (by omega)).trans R2.out)
    have K2' := Lib.hid ((st2 w2.heap.size hn2).trans K2.out)
    have K9' := Lib.hid ((st2 w9.heap.size hn9).trans K9.out)
    have FA' := Lib.hid (FA.out.far hsz (fun b h => st2 b h) (show w.heap.size + 1 < w.heap.size + 2 by omega)).now
    have LL' := Lib.hid (LL.out.far hsz (fun b h => st2 b h) (show w.heap.size + 1 < w.heap.size + 2 by omega))
    have FB' := Lib.hid (FB.out.far hsz (fun b h => st2 b h) (by have := HGE.out; have := HSZ.out; have := HRL.out; omega)).now
    have BB' := Lib.hid (st3 _ _ BB.out (by omega))
    have hS := fm_cells K2'.out
    have hS2 := fm_cells K9'.out
    clear st1 st2 st3 hsz hn2 hn9 R2 R3 K2 K9 FA LL FB BB
    refine one_ (i := 5) (N := none) #[true, true, true, true, true, true] rfl rfl (by kernel_rfl) (by decide) (fun K hK => ?_)
    refine skip_ (w1 := ?_) (by rfl) rfl ?_ ?_
    rotate_left
    · go_simp
      rfl
    refine hK.out _ _ ⟨hS.1, hS.2.1, hS.2.2.1, hS.2.2.2.1, hS.2.2.2.2, hS2⟩ (fun hHeld => ?_)
    clear hK K z0 z1 z2 z3 z4 f0 f1 f2 f3 f4 hS hS2
    generalize World.setCell (World.setCell (World.setCell (World.setCell (World.setCell wx _ _) _ _) _ _) _ _) _ _ = wy2 at R2' R3' K2' K9' FA' LL' FB' BB' hHeld ⊢
    refine done_ (by kernel_rfl) ?_
    obtain ⟨z0, z1, z2, z3, z4⟩ := fm_cells R2'.out
    obtain ⟨y0, y1, y2, y3, y4⟩ := fm_cells R3'.out
    try go_wp2_with fail
    refine bodyPost_ret (v := .tuple #[.slice L_A bl.length L_c, .agg #[.int .i64 x.f0, .string x.f1, .int .i64 x.f2, .slice X_3 x.f3.length X_c3, .slice X_4 x.f4.length X_c4], .agg #[.int .i64 x.f0, .string x.f1, .int .i64 x.f2, .slice Y_3 x.f3.length Y_c3, .slice Y_4 x.f4.length Y_c4]]) (by simp [results, Try.results27, go_sem, z0, z1, z2, z3, z4, y0, y1, y2, y3, y4]) rfl ?_
    exact ⟨_, _, _, _, _, _, _, _, _, _, rfl, LL'.out.le, LL'.out.now, FA'.out, FB'.out, BB'.out⟩
  · have t3 : (v3 == 0) = false := beq_eq_false_iff_ne.mpr v30
    refine ⟨bl, x, b, h1, h2, hbt, fun A c w hr hc => ?_⟩
    clear v30 h1 h2 hbt
    have HC := Lib.hid (hd A c ((w.alloc (.cells #[.int .i64 0, .string ⟨#[]⟩, .int .i64 0, .slice none 0 0, .slice none 0 0] 30)).alloc (.cells #[.int .i64 0, .string ⟨#[]⟩, .int .i64 0, .slice none 0 0, .slice none 0 0] 30)) (Kd.C_below hr (below_step (below_new _ _) (below_new _ _))) hc)
    have HRD := Lib.hid hr
    clear hd hr
    go_enter Try.func27, Try.ntmps27
    go_wp2_with fail
    refine HC.out.mono ?_
    rintro e w2 ⟨L_A, L_c, X_3, X_c3, X_4, X_c4, rfl, hbs, hf, hb⟩
    obtain ⟨kr2, kr3, hbw⟩ := two_new hb
    have hlo : ((w.alloc (.cells #[.int .i64 0, .string ⟨#[]⟩, .int .i64 0, .slice none 0 0, .slice none 0 0] 30)).alloc (.cells #[.int .i64 0, .string ⟨#[]⟩, .int .i64 0, .slice none 0 0, .slice none 0 0] 30)).heap.size = w.heap.size + 2 := by simp
    rw [hlo] at hbs hf
    have b5 := below_new w2 (.cells #[.int .i64 x.f0, .string x.f1, .int .i64 x.f2, .slice X_3 x.f3.length X_c3, .slice X_4 x.f4.length X_c4] 30)
    have HR2 := Lib.hid (blk_below kr2 b5)
    have HR3 := Lib.hid (blk_below kr3 b5)
    have HRL := Lib.hid (show w.heap.size + 1 < w2.heap.size from blk_lt kr3)
    have HF := Lib.hid (hf.later b5)
    have HL := Lib.hid (hbs.later b5)
    have HK := Lib.hid (blk_new w2 (.cells #[.int .i64 x.f0, .string x.f1, .int .i64 x.f2, .slice X_3 x.f3.length X_c3, .slice X_4 x.f4.length X_c4] 30))
    have HBW := Lib.hid (below_step hbw b5)
    have HSZ := Lib.hid (show (w2.alloc (.cells #[.int .i64 x.f0, .string x.f1, .int .i64 x.f2, .slice X_3 x.f3.length X_c3, .slice X_4 x.f4.length X_c4] 30)).heap.size = w2.heap.size + 1 from by simp)
    clear hbs hf hb kr2 kr3 hbw b5 hlo HC
    go_wp2_with fail
    generalize w2.alloc (.cells #[.int .i64 x.f0, .string x.f1, .int .i64 x.f2, .slice X_3 x.f3.length X_c3, .slice X_4 x.f4.length X_c4] 30) = wz at HR2 HR3 HF HL HK HBW HSZ ⊢
    refine (HO.out A c wz wz (Below.refl _ _) (Kd.C_below HRD.out HBW.out) hc).mono ?_
    rintro e w6 ⟨g, rfl, hi, hb, hb2⟩
    have HD := Lib.hid (Dr.new hi hb)
    have HGE := Lib.hid (show wz.heap.size ≤ g from Q.IsS78.ge hi)
    clear hi hb hb2
    go_wp2_with fail
    refine (of_lit (l := [(⟨#[120]⟩ : ByteArray), ⟨#[121]⟩]) rfl (by simp) HE1.out g wz w6 HD.out.is HD.out.b).mono ?_
    rintro e w7 ⟨rfl, hi, hb, hk⟩
    replace HD := Lib.hid (HD.out.call hi hb hk)
    clear hi hb hk
    go_wp2_with fail
    refine (l1Name_any nm w7).mono ?_
    rintro e w8 ⟨rfl, hb⟩
    replace HD := Lib.hid (HD.out.later hb)
    clear hb
    go_wp2_with fail
    refine (HS1.out g none 0 none 0 wz w8 HD.out.is HD.out.b (lnm_in nm w8)).mono ?_
    intro e w9 hpo
    obtain ⟨B_3, B_c3, B_4, B_c4, rfl, hf, hi, hb, hk⟩ := hpo.get
    have HG9 := Lib.hid (show g < w8.heap.size from HD.out.ltW)
    replace HD := Lib.hid (HD.out.call hi hb hk)
    have bn := below_new w9 (.cells #[.int .i64 b.f0, .string b.f1, .int .i64 b.f2, .slice B_3 b.f3.length B_c3, .slice B_4 b.f4.length B_c4] 30)
    have HFB := Lib.hid ((hf.low (show g + 1 ≤ w8.heap.size from HG9.out)).later bn)
    have HKB := Lib.hid (blk_new w9 (.cells #[.int .i64 b.f0, .string b.f1, .int .i64 b.f2, .slice B_3 b.f3.length B_c3, .slice B_4 b.f4.length B_c4] 30))
    have HG9b := Lib.hid (show g < w9.heap.size from HD.out.ltW)
    replace HD := Lib.hid (HD.out.later bn)
    clear hi hb hk hf hpo bn
    go_wp2_with fail
    generalize w9.alloc (.cells #[.int .i64 b.f0, .string b.f1, .int .i64 b.f2, .slice B_3 b.f3.length B_c3, .slice B_4 b.f4.length B_c4] 30) = wy at HFB HKB HD ⊢
    refine (pick_at HE3.out g wz wy HD.out.is HD.out.b).mono ?_
    rintro e w10 ⟨rfl, hi, hb, hk⟩
    replace HFB := Lib.hid (HFB.out.keep hk (Nat.lt_succ_self _))
    replace HKB := Lib.hid (hk.blk HKB.out (by have := HG9b.out; omega) (by simp))
    replace HD := Lib.hid (HD.out.call hi hb hk)
    clear hi hb hk
    go_wp2_with fail
    have HBZ := Lib.hid (below_step HD.out.b (below_drew (Below.refl _ _)))
    have HKB2 := Lib.hid (blk_drew HKB.out)
    have HFB2 := Lib.hid (HFB.out.later (below_drew (Below.refl _ _)))
    clear HKB HFB HD
    have hS := fm_cells (blk_below HK.out HBZ.out)
    have hS2 := fm_cells HKB2.out
    refine start_ (n := 6) (S := (fun W : World => W.cell? ⟨w2.heap.size, 0, none⟩ = some (.int .i64 x.f0) ∧ W.cell? ⟨w2.heap.size, 1, none⟩ = some (.string x.f1) ∧ W.cell? ⟨w2.heap.size, 2, none⟩ = some (.int .i64 x.f2) ∧ W.cell? ⟨w2.heap.size, 3, none⟩ = some (.slice X_3 x.f3.length X_c3) ∧ W.cell? ⟨w2.heap.size, 4, none⟩ = some (.slice X_4 x.f4.length X_c4) ∧ W.cell? ⟨w9.heap.size, 0, none⟩ = some (.int .i64 b.f0) ∧ W.cell? ⟨w9.heap.size, 1, none⟩ = some (.string b.f1) ∧ W.cell? ⟨w9.heap.size, 2, none⟩ = some (.int .i64 b.f2) ∧ W.cell? ⟨w9.heap.size, 3, none⟩ = some (.slice B_3 b.f3.length B_c3) ∧ W.cell? ⟨w9.heap.size, 4, none⟩ = some (.slice B_4 b.f4.length B_c4))) (ds := []) #[false, false, false, false, false, false] (by kernel_rfl) rfl rfl ⟨hS.1, hS.2.1, hS.2.2.1, hS.2.2.2.1, hS.2.2.2.2, hS2⟩ (fun hHeld => ?_)
    clear hS hS2
    generalize World.drew _ = wd at HBZ HKB2 HFB2 hHeld ⊢
    refine pure_ (i := 0) (N := some 27) (v := ?_) (a' := ?_) #[true, false, false, false, false, false] rfl rfl (by kernel_rfl) (fun _ _ _ h => h) (Or.inl ⟨by rfl, ?_⟩) ?_ ?_
    rotate_left
    · intro w'
      go_simp
      with_reducible rfl
    rotate_left
    · simp only [Act.put, List.setIfInBounds_toArray, List.set_cons_zero, List.set_cons_succ, i64_w, i32_w]
      rfl
    refine take_ (i := 1) (N := some 28) (v := ?_) (a' := ?_) #[true, true, false, false, false, false] rfl rfl (by kernel_rfl) (fun _ _ _ h => h) (Or.inl ⟨by rfl, ?_⟩) hHeld ?_ ?_
    rotate_left
    · rintro w' ⟨s0, s1, s2, s3, s4, s5, s6, s7, s8, s9⟩
      go_simp
      with_reducible rfl
    rotate_left
    · simp only [Act.put, List.setIfInBounds_toArray, List.set_cons_zero, List.set_cons_succ, i64_w, i32_w]
      rfl
    refine take_ (i := 2) (N := some 29) (v := ?_) (a' := ?_) #[true, true, true, false, false, false] rfl rfl (by kernel_rfl) (fun _ _ _ h => h) (Or.inl ⟨by rfl, ?_⟩) hHeld ?_ ?_
    rotate_left
    · rintro w' ⟨s0, s1, s2, s3, s4, s5, s6, s7, s8, s9⟩
      go_simp
      with_reducible rfl
    rotate_left
    · simp only [Act.put, List.setIfInBounds_toArray, List.set_cons_zero, List.set_cons_succ, i64_w, i32_w]
      rfl
    refine pure_ (i := 3) (N := some 2) (v := ?_) (a' := ?_) #[true, true, true, true, false, false] rfl rfl (by kernel_rfl) (fun _ _ _ h => h) (Or.inl ⟨by rfl, ?_⟩) ?_ ?_
    rotate_left
    · intro w'
      go_simp
      with_reducible rfl
    rotate_left
    · simp only [Act.put, List.setIfInBounds_toArray, List.set_cons_zero, List.set_cons_succ, i64_w, i32_w]
      rfl
    obtain ⟨z0, z1, z2, z3, z4⟩ := fm_cells (blk_below HR2.out HBZ.out)
    obtain ⟨f0, f1, f2, f3, f4⟩ := fm_free (blk_below HR2.out HBZ.out)
    obtain ⟨st1, st2, st3⟩ := st5 (blk_below HR2.out HBZ.out) (.int .i64 x.f0) (.string x.f1) (.int .i64 x.f2) (.slice X_3 x.f3.length X_c3) (.slice X_4 x.f4.length X_c4)
    have hn2 : w2.heap.size ≠ w.heap.size := by have := HRL.out; omega
    have hn9 : w9.heap.size ≠ w.heap.size := by have := HRL.out; have := HSZ.out; have := HGE.out; have := HG9b.out; omega
    have hsz := (st3 0 wd (Below.refl 0 _) (Nat.zero_le _)).size
    have R2 := Lib.hid st1
    have R3 := Lib.hid ((st2 (w.heap.size + 1) (by omega)).trans (blk_below HR3.out HBZ.out))
    have K2 := Lib.hid ((st2 w2.heap.size hn2).trans (blk_below HK.out HBZ.out))
    have K9 := Lib.hid ((st2 w9.heap.size hn9).trans HKB2.out)
    have FA := Lib.hid ((HF.out.later HBZ.out).far hsz (fun b h => st2 b h) (show w.heap.size < w.heap.size + 2 by omega))
    have LL := Lib.hid ((HL.out.later HBZ.out).far hsz (fun b h => st2 b h) (show w.heap.size < w.heap.size + 2 by omega))
    have FB := Lib.hid (HFB2.out.far hsz (fun b h => st2 b h) (by have := HGE.out; have := HSZ.out; have := HRL.out; omega))
    have BB := Lib.hid (st3 _ _ (below_step HBW.out HBZ.out) (Nat.le_refl _))
    have hS := fm_cells K2.out
    have hS2 := fm_cells K9.out
    clear st1 st2 st3 hsz hn2 hn9
    refine one_ (i := 4) (N := none) #[true, true, true, true, true, false] rfl rfl (by kernel_rfl) (by decide) (fun K hK => ?_)
    refine skip_ (w1 := ?_) (by rfl) rfl ?_ ?_
    rotate_left
    · go_simp
      rfl
    refine hK.out _ _ ⟨hS.1, hS.2.1, hS.2.2.1, hS.2.2.2.1, hS.2.2.2.2, hS2⟩ (fun hHeld => ?_)
    clear hK K z0 z1 z2 z3 z4 f0 f1 f2 f3 f4 hS hS2
    generalize World.setCell (World.setCell (World.setCell (World.setCell (World.setCell wd _ _) _ _) _ _) _ _) _ _ = wx at R2 R3 K2 K9 FA LL FB BB hHeld ⊢
    obtain ⟨z0, z1, z2, z3, z4⟩ := fm_cells R3.out
    obtain ⟨f0, f1, f2, f3, f4⟩ := fm_free R3.out
    obtain ⟨st1, st2, st3⟩ := st5 R3.out (.int .i64 b.f0) (.string b.f1) (.int .i64 b.f2) (.slice B_3 b.f3.length B_c3) (.slice B_4 b.f4.length B_c4)
    have hn2 : w2.heap.size ≠ w.heap.size + 1 := by have := HRL.out; omega
    have hn9 : w9.heap.size ≠ w.heap.size + 1 := by have := HRL.out; have := HSZ.out; have := HGE.out; have := HG9b.out; omega
    have hsz := (st3 0 wx (Below.refl 0 _) (Nat.zero_le _)).size
    have R3' := Lib.hid st1
    have R2' := Lib.hid ((st2 w.heap.size (by omega)).trans R2.out)
    have K2' := Lib.hid ((st2 w2.heap.size hn2).trans K2.out)
    have K9' := Lib.hid ((st2 w9.heap.size hn9).trans K9.out)
    have FA' := Lib.hid (FA.out.far hsz (fun b h => st2 b h) (show w.heap.size + 1 < w.heap.size + 2 by omega)).now
    have LL' := Lib.hid (LL.out.far hsz (fun b h => st2 b h) (show w.heap.size + 1 < w.heap.size + 2 by omega))
    have FB' := Lib.hid (FB.out.far hsz (fun b h => st2 b h) (by have := HGE.out; have := HSZ.out; have := HRL.out; omega)).now
    have BB' := Lib.hid (st3 _ _ BB.out (by omega))
    have hS := fm_cells K2'.out
    have hS2 := fm_cells K9'.out
    clear st1 st2 st3 hsz hn2 hn9 R2 R3 K2 K9 FA LL FB BB
    refine one_ (i := 5) (N := none) #[true, true, true, true, true, true] rfl rfl (by kernel_rfl) (by decide) (fun K hK => ?_)
    refine skip_ (w1 := ?_) (by rfl) rfl ?_ ?_
    rotate_left
    · go_simp
      rfl
    refine hK.out _ _ ⟨hS.1, hS.2.1, hS.2.2.1, hS.2.2.2.1, hS.2.2.2.2, hS2⟩ (fun hHeld => ?_)
    clear hK K z0 z1 z2 z3 z4 f0 f1 f2 f3 f4 hS hS2
    generalize World.setCell (World.setCell (World.setCell (World.setCell (World.setCell wx _ _) _ _) _ _) _ _) _ _ = wy2 at R2' R3' K2' K9' FA' LL' FB' BB' hHeld ⊢
    refine done_ (by kernel_rfl) ?_
    obtain ⟨z0, z1, z2, z3, z4⟩ := fm_cells R2'.out
    obtain ⟨y0, y1, y2, y3, y4⟩ := fm_cells R3'.out
    try go_wp2_with fail
    refine bodyPost_ret (v := .tuple #[.slice L_A bl.length L_c, .agg #[.int .i64 x.f0, .string x.f1, .int .i64 x.f2, .slice X_3 x.f3.length X_c3, .slice X_4 x.f4.length X_c4], .agg #[.int .i64 b.f0, .string b.f1, .int .i64 b.f2, .slice B_3 b.f3.length B_c3, .slice B_4 b.f4.length B_c4]]) (by simp [results, Try.results27, go_sem, z0, z1, z2, z3, z4, y0, y1, y2, y3, y4]) rfl ?_
    exact ⟨_, _, _, _, _, _, _, _, _, _, rfl, LL'.out.le, LL'.out.now, FA'.out, FB'.out, BB'.out⟩
end Go.Proofs.Ytcbomlmlindjdaa
end
section
-- PRINTED WORDS (module Derived/Print/Sized.lean): go-gate-2's, for the rows of laws over slices: an AI agent of Go's test side, Tue Nov 17 2026; no person has read it. Lean checks it.
namespace Go.Proofs.YtcbomlmlindjdaaW.PrintWords
open Go.ChangeShapes Go.WideShapes
/-- A row's slice of whole numbers is no longer than its weight allows. -/
theorem sized_ints {H : Type} {enc : TypeId × Value → H} {P : Program} {W : World} {base : Nat} {spare : Nat → Bool} {held : Bool} {t e : TypeId} {k : IntKind} {a : Option Addr} {len cap : Nat} {d : DataW H} {ps : List MemPlace} {ts : List TypeId} {ds : List (DataW H)} {j : Nat}
    (hsz : (DataW.weightsEach P ts ds).all (· ≤ reachBytes) = true) (ht : ts[j]? = some t) (hd : ds[j]? = some d) (hu : P.underlying t = some (.slice e)) (he : P.underlying e = some (.int k)) (hc : P.cellsOf e = 1) {B : Nat} (hB : P.bytesOf e = B)
    (h : DataW.Trod enc P W base spare held t (.slice a len cap) d ps) : len * B ≤ 140737488351232 := by
  obtain ⟨fuel, hf⟩ := h
  rcases open_ints hu he hc hf with ⟨hcs, _⟩ | ⟨x, l, c, zs, hcs, _, hl, _, hz, hx, _, _⟩
  · simp [Value.cells] at hcs
    obtain ⟨rfl, rfl, rfl⟩ := hcs
    simp
  · simp [Value.cells] at hcs
    obtain ⟨rfl, rfl, rfl⟩ := hcs
    obtain ⟨hx, _⟩ := Prod.mk.inj hx
    subst hx
    have z := sized_slice hsz ht hd hu
    rw [hB] at z
    have hl2 : len ≤ zs.length := by
      rw [hz]
      split
      · exact hl
      · exact Nat.le_refl _
    have h1 : (lits (H := H) k (zs.take len)).length + (lits (H := H) k (zs.drop len)).length = zs.length := by
      simp [lits]
      omega
    rw [h1] at z
    exact Nat.le_trans (Nat.mul_le_mul_right _ hl2) z
end Go.Proofs.YtcbomlmlindjdaaW.PrintWords
end
