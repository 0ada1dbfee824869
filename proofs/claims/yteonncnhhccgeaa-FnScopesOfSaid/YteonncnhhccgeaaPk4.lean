/- Words for the laws' proofs (part 4): contracts of functions, and plain lemmas. -/
import Derived.ChangeSlices
import Derived.SizedLaws
import Derived.Test.YteonncnhhccgeaaPk1
import Derived.Test.YteonncnhhccgeaaPk2
import Derived.Test.YteonncnhhccgeaaPk3
section
namespace Go.Proofs.Yteonncnhhccgeaa
open Go.RowKit Go.Proofs.YteonncnhhccgeaaW.PrintWords Go.Proofs.YteonncnhhccgeaaW.PrintLast Go.Proofs.YteonncnhhccgeaaW.PrintMore
set_option linter.unusedVariables false
set_option linter.unusedSimpArgs false
theorem reads_strs {W : World} {b : Nat} {cs : Array Value} {l : List ByteArray} (hb : W.heap[b]? = some (.cells cs 9 (0, 0))) (hl : l.length ≤ 1000) (hcs : cs.toList = l.map Value.string) : Kd.string.C W (some ⟨b, 0, none⟩) l.length l := by
  refine Kd.C_of_reads (d := ByteArray.empty) (h1 := fun _ => rfl) ⟨rfl, by omega, fun hn => ⟨⟨b, 0, none⟩, rfl, fun i hi => ?_⟩⟩
  rw [add_plain, blk_cell hb i]
  have h9 := congrArg (fun z => z[i]?) hcs
  simp only [Array.getElem?_toList, List.getElem?_map] at h9
  rw [h9, List.getElem?_eq_getElem hi, List.getD_eq_getElem?_getD, List.getElem?_eq_getElem hi]
  rfl
abbrev badNms : List ByteArray := [(⟨#[]⟩ : ByteArray), (⟨#[65]⟩ : ByteArray), (⟨#[116, 111, 111, 108, 111, 110, 103, 97, 110, 97, 109, 101, 49]⟩ : ByteArray), (⟨#[122]⟩ : ByteArray), (⟨#[120, 32, 121]⟩ : ByteArray)]
def MutOk (s : List Int) (x : Fm) (p : Nat) (y : Fm) (q : Nat) : Prop := ∀ (g : Nat) (A3 : Option Addr) (c3 : Nat) (A4 : Option Addr) (c4 : Nat) (w0 w : World), IsRd w0 w g s (p : Int) → Below w0.heap.size w0 w → FmIn w x A3 c3 A4 c4 →
  Calls Try.prog 140 #[.pointer (some ⟨g, 0, none⟩), .agg #[.int .i64 x.f0, .string x.f1, .int .i64 x.f2, .slice A3 x.f3.length c3, .slice A4 x.f4.length c4]] w (DrPost w0 g s (q : Int) y w)
set_option maxHeartbeats 4000000 in
set_option maxRecDepth 100000 in
theorem mut_rec {s : List Int} (x : Fm) (p q : Nat) (v : Int) (i : Nat) (y : Fm) (ht : x.tot ≤ 200000) (hlt : i < x.f4.length) (hv : 0 < v) (h2 : Ev (fun k => Q.spec_l15Rd_pick.f k s (p : Int) 2) (v, ((p + 1 : Nat) : Int))) (hk : Ev (fun k => Q.spec_l15Rd_pick.f k s ((p + 1 : Nat) : Int) (x.f4.length : Int)) ((i : Int), ((p + 2 : Nat) : Int))) (hm : MutOk s x.f4[i] (p + 2) y q) : MutOk s x p ⟨x.f0, x.f1, x.f2, x.f3, x.f4.take i ++ y :: x.f4.drop (i + 1)⟩ q := by
  obtain ⟨ka, hka⟩ := h2.rounds
  obtain ⟨kb, hkb⟩ := hk.rounds
  have HKA := Lib.hid hka
  have HKB := Lib.hid hkb
  have HM := Lib.hid hm
  have HV := Lib.hid hv
  clear h2 hk hka hkb hm hv
  intro g A3 c3 A4 c4 w0 w hi hb hin
  have hmax := hin.g4.2.1
  have HI := Lib.hid hin
  have HD0 := Lib.hid (Dr.new hi hb)
  have HT := Lib.hid ht
  have hlen := len_totL x.f4
  have hxt := x.tot_eq
  have HLN := Lib.hid (show x.f4.length ≤ 200000 by omega)
  have HL3 := Lib.hid (show x.f3.length ≤ 200000 by omega)
  clear hin hi hb ht hlen hxt
  go_enter Try.func140, Try.ntmps140
  go_wp2_with fail
  refine (l1Copy_any x A3 c3 A4 c4 _ (HI.out.below (below_step (below_new _ _) (below_new _ _))) (by have := HT.out; omega)).mono ?_
  rintro e w1 ⟨u3, u4, rfl, hn, hb1⟩
  obtain ⟨J3, q3, J4, q4, rfl, rfl⟩ : ∃ J3 q3 J4 q4, u3 = .slice J3 x.f3.length q3 ∧ u4 = .slice J4 x.f4.length q4 := by
    obtain ⟨fk, hk2, _⟩ := hn
    obtain ⟨J3, q3, J4, q4, e3, e4, _⟩ := hk2.In
    exact ⟨J3, q3, J4, q4, e3, e4⟩
  obtain ⟨k1, k2, b1⟩ := two_new hb1
  rw [show ((w.alloc (.cells #[.int .i64 x.f0, .string x.f1, .int .i64 x.f2, .slice A3 x.f3.length c3, .slice A4 x.f4.length c4] 31)).alloc (.cells #[.int .i64 0, .string ⟨#[]⟩, .int .i64 0, .slice none 0 0, .slice none 0 0] 31)).heap.size = w.heap.size + 2 from by simp] at hn
  obtain ⟨inner, fp, hdp⟩ := Dp.start (HD0.out.later b1) k1 k2 hn
  have HDP := Lib.hid hdp
  clear hb1 hn k1 k2 b1 hdp
  have t1 : decide ((x.f4.length : Int) > 0) = true := decide_eq_true (by omega)
  have t1' : decide (0 < x.f4.length) = true := decide_eq_true (by omega)
  have t2 : decide (v > 0) = true := decide_eq_true HV.out
  go_wp2_with fail
  refine (Q.spec_l15Rd_pick.calls ka g s _ 2 v _ w0 _ HDP.out.dr.is HDP.out.dr.b HKA.out).mono ?_
  rintro e w2 ⟨rfl, hi, hb, hk⟩
  have hw2 := Lib.hid (HDP.out.call hi hb hk)
  clear hi hb hk
  have z4 := (fm_cells hw2.out.k3).2.2.2.2
  go_wp2_with fail
  refine (Q.spec_l15Rd_pick.calls kb g s _ (x.f4.length : Int) (i : Int) _ w0 _ hw2.out.dr.is hw2.out.dr.b HKB.out).mono ?_
  rintro e w3 ⟨rfl, hi, hb, hk⟩
  have hw3 := Lib.hid (hw2.out.call hi hb hk)
  clear hi hb hk
  obtain ⟨gr, cap, e, hgr0, hgr1⟩ := hw3.out.o4.form (by omega)
  obtain ⟨rfl, rfl⟩ : J4 = some ⟨gr, 0, none⟩ ∧ q4 = cap := by injection e with e1 _ e2; exact ⟨e1, e2⟩
  clear e
  have hdr : x.f4 = x.f4.take i ++ x.f4[i] :: x.f4.drop (i + 1) := by rw [← List.drop_eq_getElem_cons hlt, List.take_append_drop]
  have htr := hw3.out.tr
  obtain ⟨ia, ib0, fa, fb0, hin1, hfp1, hta, htb0⟩ := TrL.split (x.f4.take i) (b := x.f4[i] :: x.f4.drop (i + 1)) (by rw [← hdr]; exact htr)
  obtain ⟨z3, z4', ib, fx, fb, rfl, rfl, htx, htb⟩ := TrL.cons_inv htb0
  subst hin1 hfp1
  have hla := hta.len
  rw [List.length_take, Nat.min_eq_left (by omega)] at hla
  obtain ⟨G3, m3, G4, m4, rfl, rfl, hkin⟩ := htx.In
  have HDRX := Lib.hid hdr
  have HTA := Lib.hid hta
  have HTB := Lib.hid htb
  have HLA := Lib.hid hla
  have HKIN := Lib.hid hkin
  have SK := Lib.hid (fun (W : World) (q' : Int) (h : Dp w0 w g s q' (.cells #[.int .i64 x.f0, .string x.f1, .int .i64 x.f2, .slice A3 x.f3.length c3, .slice A4 x.f4.length c4] 31) (.cells #[.int .i64 0, .string ⟨#[]⟩, .int .i64 0, .slice none 0 0, .slice none 0 0] 31) w1.heap.size x.f0 x.f1 x.f2 x.f3 x.f4 (.slice J3 x.f3.length q3) (.slice (some ⟨gr, 0, none⟩) x.f4.length q4) (ia ++ ([.int .i64 x.f4[i].f0, .string x.f4[i].f1, .int .i64 x.f4[i].f2, .slice G3 x.f4[i].f3.length m3, .slice G4 x.f4[i].f4.length m4] ++ ib)) (fa ++ (fx ++ fb)) W) => (⟨(fm_cells h.k3).2.2.2.2, (row_put h.o4 hla).1⟩ : (fun W : World => W.cell? ⟨w1.heap.size, 4, none⟩ = some (.slice (some ⟨gr, 0, none⟩) x.f4.length q4) ∧ W.cell? ⟨gr, i * 5, none⟩ = some (.int .i64 x.f4[i].f0) ∧ W.cell? ⟨gr, i * 5 + 1, none⟩ = some (.string x.f4[i].f1) ∧ W.cell? ⟨gr, i * 5 + 2, none⟩ = some (.int .i64 x.f4[i].f2) ∧ W.cell? ⟨gr, i * 5 + 3, none⟩ = some (.slice G3 x.f4[i].f3.length m3) ∧ W.cell? ⟨gr, i * 5 + 4, none⟩ = some (.slice G4 x.f4[i].f4.length m4)) W))
  have hp4 := (SK.out _ _ hw3.out).1
  have s1 : (0 : Int) ≤ (i : Int) := by omega
  have s2 : (i : Int) < (x.f4.length : Int) := by omega
  clear hdr htr hta htb htb0 htx hla hkin hgr0 hgr1 z4 HDP hw2
  go_wp2_with fail
  have HD := Lib.hid (hw3.out.later (below_drew (Below.refl _ _)))
  have HKD := Lib.hid (HKIN.out.below (below_drew (Below.refl _ _)))
  have HDK := Lib.hid (fun b (hb : b < w3.heap.size) => (below_drew (Below.refl w3.heap.size w3)).block b hb)
  refine start_ (n := 12) (S := (fun W : World => W.cell? ⟨w1.heap.size, 4, none⟩ = some (.slice (some ⟨gr, 0, none⟩) x.f4.length q4) ∧ W.cell? ⟨gr, i * 5, none⟩ = some (.int .i64 x.f4[i].f0) ∧ W.cell? ⟨gr, i * 5 + 1, none⟩ = some (.string x.f4[i].f1) ∧ W.cell? ⟨gr, i * 5 + 2, none⟩ = some (.int .i64 x.f4[i].f2) ∧ W.cell? ⟨gr, i * 5 + 3, none⟩ = some (.slice G3 x.f4[i].f3.length m3) ∧ W.cell? ⟨gr, i * 5 + 4, none⟩ = some (.slice G4 x.f4[i].f4.length m4))) (ds := [11]) #[false, false, false, false, false, false, false, false, false, false, false, false] (by kernel_rfl) rfl rfl (SK.out _ _ HD.out) (fun hHeld => ?_)
  clear hp4
  generalize w3.drew = wd at HD HKD HDK hHeld ⊢
  refine pure_ (i := 0) (N := some 23) (v := ?_) (a' := ?_) #[true, false, false, false, false, false, false, false, false, false, false, false] rfl rfl (by kernel_rfl) (fun _ _ _ h => h) (Or.inl ⟨by rfl, ?_⟩) ?_ ?_
  rotate_left
  · intro w'
    go_simp
    with_reducible rfl
  rotate_left
  · simp only [Act.put, List.setIfInBounds_toArray, List.set_cons_zero, List.set_cons_succ, i64_w, i32_w]
    rfl
  refine pure_ (i := 2) (N := some 25) (v := ?_) (a' := ?_) #[true, false, true, false, false, false, false, false, false, false, false, false] rfl rfl (by kernel_rfl) (fun _ _ _ h => h) (Or.inl ⟨by rfl, ?_⟩) ?_ ?_
  rotate_left
  · intro w'
    go_simp
    with_reducible rfl
  rotate_left
  · simp only [Act.put, List.setIfInBounds_toArray, List.set_cons_zero, List.set_cons_succ, i64_w, i32_w]
    rfl
  refine pure_ (i := 3) (N := some 26) (v := ?_) (a' := ?_) #[true, false, true, true, false, false, false, false, false, false, false, false] rfl rfl (by kernel_rfl) (fun _ _ _ h => h) (Or.inl ⟨by rfl, ?_⟩) ?_ ?_
  rotate_left
  · intro w'
    go_simp
    with_reducible rfl
  rotate_left
  · simp only [Act.put, List.setIfInBounds_toArray, List.set_cons_zero, List.set_cons_succ, i64_w, i32_w]
    rfl
  refine pure_ (i := 4) (N := some 27) (v := ?_) (a' := ?_) #[true, false, true, true, true, false, false, false, false, false, false, false] rfl rfl (by kernel_rfl) (fun _ _ _ h => h) (Or.inl ⟨by rfl, ?_⟩) ?_ ?_
  rotate_left
  · intro w'
    go_simp
    with_reducible rfl
  rotate_left
  · simp only [Act.put, List.setIfInBounds_toArray, List.set_cons_zero, List.set_cons_succ, i64_w, i32_w]
    rfl
  refine pure_ (i := 6) (N := some 29) (v := ?_) (a' := ?_) #[true, false, true, true, true, false, true, false, false, false, false, false] rfl rfl (by kernel_rfl) (fun _ _ _ h => h) (Or.inl ⟨by rfl, ?_⟩) ?_ ?_
  rotate_left
  · intro w'
    go_simp
    with_reducible rfl
  rotate_left
  · simp only [Act.put, List.setIfInBounds_toArray, List.set_cons_zero, List.set_cons_succ, i64_w, i32_w]
    rfl
  refine take_ (i := 1) (N := some 24) (v := ?_) (a' := ?_) #[true, true, true, true, true, false, true, false, false, false, false, false] rfl rfl (by kernel_rfl) (fun _ _ _ h => h) (Or.inl ⟨by rfl, ?_⟩) hHeld ?_ ?_
  rotate_left
  · rintro w' ⟨s0, e0, e1, e2, e3_, e4⟩
    go_simp
    with_reducible rfl
  rotate_left
  · simp only [Act.put, List.setIfInBounds_toArray, List.set_cons_zero, List.set_cons_succ, i64_w, i32_w]
    rfl
  refine take_ (i := 5) (N := some 28) (v := ?_) (a' := ?_) #[true, true, true, true, true, true, true, false, false, false, false, false] rfl rfl (by kernel_rfl) (fun _ _ _ h => h) (Or.inl ⟨by rfl, ?_⟩) hHeld ?_ ?_
  rotate_left
  · rintro w' ⟨s0, e0, e1, e2, e3_, e4⟩
    go_simp
    with_reducible rfl
  rotate_left
  · simp only [Act.put, List.setIfInBounds_toArray, List.set_cons_zero, List.set_cons_succ, i64_w, i32_w]
    rfl
  refine pure_ (i := 7) (N := some 30) (v := ?_) (a' := ?_) #[true, true, true, true, true, true, true, true, false, false, false, false] rfl rfl (by kernel_rfl) (fun _ _ _ h => h) (Or.inl ⟨by rfl, ?_⟩) ?_ ?_
  rotate_left
  · intro w'
    go_simp
    with_reducible rfl
  rotate_left
  · simp only [Act.put, List.setIfInBounds_toArray, List.set_cons_zero, List.set_cons_succ, i64_w, i32_w]
    rfl
  refine take_ (i := 8) (N := some 31) (v := ?_) (a' := ?_) #[true, true, true, true, true, true, true, true, true, false, false, false] rfl rfl (by kernel_rfl) (fun _ _ _ h => h) (Or.inl ⟨by rfl, ?_⟩) hHeld ?_ ?_
  rotate_left
  · rintro w' ⟨s0, e0, e1, e2, e3_, e4⟩
    go_simp
    with_reducible rfl
  rotate_left
  · simp only [Act.put, List.setIfInBounds_toArray, List.set_cons_zero, List.set_cons_succ, i64_w, i32_w]
    rfl
  refine one_ (i := 9) (N := some 32) #[true, true, true, true, true, true, true, true, true, true, false, false] rfl rfl (by kernel_rfl) (by decide) (fun K hK => ?_)
  refine goes_ Try.func140 (by kernel_rfl) rfl #[.pointer (some ⟨g, 0, none⟩), .agg #[.int .i64 x.f4[i].f0, .string x.f4[i].f1, .int .i64 x.f4[i].f2, .slice G3 x.f4[i].f3.length m3, .slice G4 x.f4[i].f4.length m4]] (by rfl) rfl rfl (by (try simp only [List.map_toArray, List.map_cons, List.map_nil]); first | done | rfl) ?_
  refine (HM.out g G3 m3 G4 m4 w0 wd HD.out.dr.is HD.out.dr.b HKD.out).mono ?_
  rintro e w7 ⟨u3, u4, rfl, hn, hi7, hb7, hk7⟩
  refine ⟨_, rfl, ?_⟩
  obtain ⟨U3, n3_, U4, n4_, rfl, rfl⟩ : ∃ U3 n3 U4 n4, u3 = .slice U3 y.f3.length n3 ∧ u4 = .slice U4 y.f4.length n4 := by
    obtain ⟨fk, hk2, _⟩ := hn
    obtain ⟨J3, q3, J4, q4, e3, e4, _⟩ := hk2.In
    exact ⟨J3, q3, J4, q4, e3, e4⟩
  have H7 := Lib.hid (HD.out.call hi7 hb7 hk7)
  have HN := Lib.hid hn
  have HK7 := Lib.hid hk7
  clear hn hi7 hb7 hk7
  refine hK.out _ _ (SK.out _ _ H7.out) (fun hHeld => ?_)
  clear hK K
  refine norm_ (a' := ?_) ?_ ?_
  rotate_left
  · show Act.put _ (some 32) _ = _
    simp only [Act.put, List.setIfInBounds_toArray, List.set_cons_zero, List.set_cons_succ, i64_w, i32_w]
    rfl
  refine pure_ (i := 10) (N := some 33) (v := ?_) (a' := ?_) #[true, true, true, true, true, true, true, true, true, true, true, false] rfl rfl (by kernel_rfl) (fun _ _ _ h => h) (Or.inl ⟨by rfl, ?_⟩) ?_ ?_
  rotate_left
  · intro w'
    go_simp
    with_reducible rfl
  rotate_left
  · simp only [Act.put, List.setIfInBounds_toArray, List.set_cons_zero, List.set_cons_succ, i64_w, i32_w]
    rfl
  refine last_ (i := 11) (N := none) #[true, true, true, true, true, true, true, true, true, true, true, true] rfl rfl (by kernel_rfl) (by decide) (fun K hK => ?_)
  obtain ⟨_, z0, z1, z2, z3, z4⟩ := SK.out _ _ H7.out
  have hfz := (row_put H7.out.o4 HLA.out).2.1
  have f0 := hfz (i * 5)
  have f1 := hfz (i * 5 + 1)
  have f2 := hfz (i * 5 + 2)
  have f3 := hfz (i * 5 + 3)
  have f4 := hfz (i * 5 + 4)
  clear hfz
  have hla2 : (x.f4.take i).length = i := by simp; omega
  have hltd := HD.out.lt
  obtain ⟨fp', hC7⟩ := H7.out.kid (B := wd.heap.size) rfl HDRX.out rfl rfl (HTA.out.move _ (fun b hb => by have hl := hw3.out.lt b (by simp [hb]); have hge := hw3.out.ge b (by simp [hb]); have hg0 := hw3.out.dr.lt; rw [HK7.out.2 b (by have := HD.out.lt b (by simp [hb]); omega) (by omega) (by simp)]; exact HDK.out b hl)) (HTB.out.move _ (fun b hb => by have hl := hw3.out.lt b (by simp [hb]); have hge := hw3.out.ge b (by simp [hb]); have hg0 := hw3.out.dr.lt; rw [HK7.out.2 b (by have := HD.out.lt b (by simp [hb]); omega) (by omega) (by simp)]; exact HDK.out b hl)) hltd HD.out.lts.2 HD.out.lts.1 HN.out
  rw [hla2] at hC7
  have HC7 := Lib.hid hC7
  clear hC7 hla2 hltd
  refine skip_ (w1 := ?_) (by rfl) rfl ?_ ?_
  rotate_left
  · go_simp
    rfl
  refine hK.out _ _ ?_
  clear hK K
  clear z0 z1 z2 z3 z4 f0 f1 f2 f3 f4
  refine done_ (by kernel_rfl) ?_
  have hC := HC7.out
  obtain ⟨p0, p1_, p2, p3, p4⟩ := fm_cells hC.k3
  obtain ⟨z0, z1, z2, z3, z4⟩ := fm_cells hC.k2
  obtain ⟨f0, f1, f2, f3, f4⟩ := fm_free hC.k2
  have hn1 : w1.heap.size ≠ w.heap.size + 1 := by have := hC.h3; omega
  have hn2 : w.heap.size + 1 ≠ w1.heap.size := fun e => hn1 e.symm
  have hl9 : (x.f4.take i ++ y :: x.f4.drop (i + 1)).length = x.f4.length := by simp; omega
  obtain ⟨st1, st2, st3⟩ := st5 HC7.out.k2 (.int .i64 x.f0) (.string x.f1) (.int .i64 x.f2) (.slice J3 x.f3.length q3) (.slice (some ⟨gr, 0, none⟩) x.f4.length q4)
  have HN := Lib.hid (HC7.out.newF st2)
  have HB := Lib.hid (HC7.out.dr.put5 (b := w.heap.size + 1) (by omega) (.int .i64 x.f0) (.string x.f1) (.int .i64 x.f2) (.slice J3 x.f3.length q3) (.slice (some ⟨gr, 0, none⟩) x.f4.length q4))
  clear st1 st2 st3
  have HL9 := Lib.hid hl9
  clear hC hl9
  go_wp2_with fail
  refine bodyPost_ret (v := .agg #[.int .i64 x.f0, .string x.f1, .int .i64 x.f2, .slice J3 x.f3.length q3, .slice (some ⟨gr, 0, none⟩) x.f4.length q4]) (by simp [results, Try.results140, go_sem, z0, z1, z2, z3, z4]) rfl ?_
  exact ⟨_, _, rfl, HN.out, HB.out.is, HB.out.b, HB.out.kp⟩
set_option maxHeartbeats 8000000 in
set_option maxRecDepth 100000 in
theorem mut_stop {s : List Int} (x : Fm) (p p1 q : Nat) (c : Int) (y : Fm) (ht : x.tot ≤ 200000)
    (hp1 : (x.f4 = [] ∧ p1 = p) ∨ (x.f4 ≠ [] ∧ p1 = p + 1 ∧ ∃ v : Int, v ≤ 0 ∧ Ev (fun k => Q.spec_l15Rd_pick.f k s (p : Int) 2) (v, ((p + 1 : Nat) : Int)))) (hc : Ev (fun k => Q.spec_l15Rd_pick.f k s (p1 : Int) 14) (c, ((p1 + 1 : Nat) : Int)))
    (h0 : c = 0 → ∃ n : Int, Ev (fun k => Q.spec_l15Rd_num.f k s ((p1 + 1 : Nat) : Int) [0, 4, 1, 3]) (n, ((p1 + 2 : Nat) : Int)) ∧ y = ⟨n, x.f1, x.f2, x.f3, x.f4⟩ ∧ q = p1 + 2)
    (h1 : c = 1 → ∃ n : ByteArray, Ev (fun k => Q.spec_l15Rd_of.f k s ((p1 + 1 : Nat) : Int) badNms) (n, ((p1 + 2 : Nat) : Int)) ∧ y = ⟨x.f0, n, x.f2, x.f3, x.f4⟩ ∧ q = p1 + 2)
    (h2 : c = 2 → ∃ n : Int, Ev (fun k => Q.spec_l15Rd_num.f k s ((p1 + 1 : Nat) : Int) [1000, -1, 5]) (n, ((p1 + 2 : Nat) : Int)) ∧ y = ⟨x.f0, x.f1, n, x.f3, x.f4⟩ ∧ q = p1 + 2)
    (h3 : c = 3 → ∃ n : Int, Ev (fun k => Q.spec_l15Rd_num.f k s ((p1 + 1 : Nat) : Int) [0, 100, 1, 50]) (n, ((p1 + 2 : Nat) : Int)) ∧ y = ⟨x.f0, x.f1, x.f2, x.f3 ++ [n], x.f4⟩ ∧ q = p1 + 2)
    (h4 : c ≠ 0 → c ≠ 1 → c ≠ 2 → c ≠ 3 → y = ⟨x.f0, x.f1, x.f2, x.f3, x.f4⟩ ∧ q = p1 + 1) : MutOk s x p y q := by
  obtain ⟨kc, hkc⟩ := hc.rounds
  have HKC := Lib.hid hkc
  have HP1 := Lib.hid hp1
  have H0 := Lib.hid h0
  have H1 := Lib.hid h1
  have H2 := Lib.hid h2
  have HS3 := Lib.hid h3
  have H4 := Lib.hid h4
  clear hc hkc hp1 h0 h1 h2 h3 h4
  intro g A3 c3 A4 c4 w0 w hi hb hin
  have hmax := hin.g4.2.1
  have HI := Lib.hid hin
  have HD0 := Lib.hid (Dr.new hi hb)
  have HT := Lib.hid ht
  have hlen := len_totL x.f4
  have hxt := x.tot_eq
  have HLN := Lib.hid (show x.f4.length ≤ 200000 by omega)
  have HL3 := Lib.hid (show x.f3.length ≤ 200000 by omega)
  clear hin hi hb ht hlen hxt
  go_enter Try.func140, Try.ntmps140
  go_wp2_with fail
  refine (l1Copy_any x A3 c3 A4 c4 _ (HI.out.below (below_step (below_new _ _) (below_new _ _))) (by have := HT.out; omega)).mono ?_
  rintro e w1 ⟨u3, u4, rfl, hn, hb1⟩
  obtain ⟨J3, q3, J4, q4, rfl, rfl⟩ : ∃ J3 q3 J4 q4, u3 = .slice J3 x.f3.length q3 ∧ u4 = .slice J4 x.f4.length q4 := by
    obtain ⟨fk, hk2, _⟩ := hn
    obtain ⟨J3, q3, J4, q4, e3, e4, _⟩ := hk2.In
    exact ⟨J3, q3, J4, q4, e3, e4⟩
  obtain ⟨k1, k2, b1⟩ := two_new hb1
  rw [show ((w.alloc (.cells #[.int .i64 x.f0, .string x.f1, .int .i64 x.f2, .slice A3 x.f3.length c3, .slice A4 x.f4.length c4] 31)).alloc (.cells #[.int .i64 0, .string ⟨#[]⟩, .int .i64 0, .slice none 0 0, .slice none 0 0] 31)).heap.size = w.heap.size + 2 from by simp] at hn
  obtain ⟨inner, fp, hdp⟩ := Dp.start (HD0.out.later b1) k1 k2 hn
  have HDP := Lib.hid hdp
  clear hb1 hn k1 k2 b1 hdp
  go_upto_region 2 with fail
  (try simp only [Act.put, List.setIfInBounds_toArray, List.set_cons_zero, List.set_cons_succ])
  go_cut [17] (fun v17 wc => ∃ (inner : List Value) (fp : List Nat), v17 = .bool false ∧ Aside0 (Dp w0 w g s (p1 : Int) (.cells #[.int .i64 x.f0, .string x.f1, .int .i64 x.f2, .slice A3 x.f3.length c3, .slice A4 x.f4.length c4] 31) (.cells #[.int .i64 0, .string ⟨#[]⟩, .int .i64 0, .slice none 0 0, .slice none 0 0] 31) w1.heap.size x.f0 x.f1 x.f2 x.f3 x.f4 (.slice J3 x.f3.length q3) (.slice J4 x.f4.length q4) inner fp wc))
  case first =>
    rcases HP1.out with ⟨he, ep⟩ | ⟨he, ep, v, hv, h2⟩
    · have t1 : decide ((x.f4.length : Int) > 0) = false := decide_eq_false (by rw [he]; simp)
      have t1' : decide (0 < x.f4.length) = false := decide_eq_false (by rw [he]; simp)
      have HEP := Lib.hid ep
      clear he ep
      go_wp2_with fail
      go_meet
      case rel => exact ⟨inner, fp, rfl, ⟨by rw [HEP.out]; exact HDP.out⟩⟩
    · have t1 : decide ((x.f4.length : Int) > 0) = true := decide_eq_true (by have := List.length_pos_iff.2 he; omega)
      have t1' : decide (0 < x.f4.length) = true := decide_eq_true (List.length_pos_iff.2 he)
      have t2 : decide (v > 0) = false := decide_eq_false (by omega)
      have t2' : decide (0 < v) = false := decide_eq_false (by omega)
      obtain ⟨ka, hka⟩ := h2.rounds
      have HKA := Lib.hid hka
      have HEP := Lib.hid ep
      clear he ep hv h2 hka
      go_wp2_with fail
      refine (Q.spec_l15Rd_pick.calls ka g s _ 2 v _ w0 _ HDP.out.dr.is HDP.out.dr.b HKA.out).mono ?_
      rintro e w2 ⟨rfl, hi, hb, hk⟩
      have hw2 := Lib.hid (HDP.out.call hi hb hk)
      clear hi hb hk
      go_wp2_with fail
      go_meet
      case rel => exact ⟨inner, fp, rfl, ⟨by rw [HEP.out]; exact hw2.out⟩⟩
  case rest =>
    clear HDP inner fp
    obtain ⟨inner, fp, rfl, HDP⟩ := hcut
    go_wp2_with fail
    refine (Q.spec_l15Rd_pick.calls kc g s _ 14 c _ w0 _ HDP.out.dr.is HDP.out.dr.b HKC.out).mono ?_
    rintro e w3 ⟨rfl, hi, hb, hk⟩
    have hw3 := Lib.hid (HDP.out.call hi hb hk)
    clear hi hb hk
    by_cases c0 : c = 0
    · subst c0
      obtain ⟨n, hn, rfl, rfl⟩ := H0.out rfl
      obtain ⟨kn, hkn⟩ := hn.rounds
      have HKN := Lib.hid hkn
      clear hn hkn
      go_wp2_with fail
      have hblk := blk_new w3 (.cells #[.int .i64 0, .int .i64 4, .int .i64 1, .int .i64 3] 3 (0, 0))
      have HRB := Lib.hid (reads_block (l := [0, 4, 1, 3]) hblk (by simp) rfl)
      have HNE := Lib.hid (show w3.heap.size ≠ g from by have := hw3.out.dr.lt; have := hw3.out.lts; omega)
      clear hblk
      refine (Q.spec_l15Rd_num.calls kn g s _ (some ⟨w3.heap.size, 0, none⟩) _ [0, 4, 1, 3] n _ w0 _ (hw3.out.dr.later (below_new _ _)).is (hw3.out.dr.later (below_new _ _)).b HRB.out (Nat.le_refl _) (fun ad e _ => by cases e; exact HNE.out) HKN.out).mono ?_
      rintro e w4 ⟨rfl, hi, hb, hk⟩
      have hw4 := Lib.hid ((hw3.out.later (below_new _ _)).call hi hb hk)
      have HC7 := Lib.hid (hw4.out.put (j := 0) (u := .int .i64 n) (by simpa using blk_set hw4.out.k3 0 (.int .i64 n)))
      clear hi hb hk
      have hC := hw4.out
      obtain ⟨p0, p1_, p2, p3, p4⟩ := fm_cells hC.k3
      obtain ⟨o0, o1, o2, o3, o4⟩ := fm_free hC.k3
      obtain ⟨z0, z1, z2, z3, z4⟩ := fm_cells hC.k2
      obtain ⟨f0, f1, f2, f3, f4⟩ := fm_free hC.k2
      have hn1 : w1.heap.size ≠ w.heap.size + 1 := by have := hC.h3; omega
      have hn2 : w.heap.size + 1 ≠ w1.heap.size := fun e => hn1 e.symm
      clear hC
      obtain ⟨st1, st2, st3⟩ := st5 HC7.out.k2 (.int .i64 n) (.string x.f1) (.int .i64 x.f2) (.slice J3 x.f3.length q3) (.slice J4 x.f4.length q4)
      have HN := Lib.hid (HC7.out.newF st2)
      have HB := Lib.hid (HC7.out.dr.put5 (b := w.heap.size + 1) (by omega) (.int .i64 n) (.string x.f1) (.int .i64 x.f2) (.slice J3 x.f3.length q3) (.slice J4 x.f4.length q4))
      clear st1 st2 st3
      go_wp2_with fail
      refine bodyPost_ret (v := .agg #[.int .i64 n, .string x.f1, .int .i64 x.f2, .slice J3 x.f3.length q3, (.slice J4 x.f4.length q4)]) (by simp [results, Try.results140, go_sem, z0, z1, z2, z3, z4, hn1, hn2]) rfl ?_
      exact ⟨_, _, rfl, HN.out, HB.out.is, HB.out.b, HB.out.kp⟩
    by_cases c1 : c = 1
    · subst c1
      clear c0
      obtain ⟨n, hn, rfl, rfl⟩ := H1.out rfl
      obtain ⟨kn, hkn⟩ := hn.rounds
      have HKN := Lib.hid hkn
      clear hn hkn
      go_wp2_with fail
      have hblk := blk_new w3 (.cells #[.string ⟨#[]⟩, .string ⟨#[65]⟩, .string ⟨#[116, 111, 111, 108, 111, 110, 103, 97, 110, 97, 109, 101, 49]⟩, .string ⟨#[122]⟩, .string ⟨#[120, 32, 121]⟩] 9 (0, 0))
      have HRB := Lib.hid (reads_strs (l := badNms) hblk (by simp) rfl)
      have HNE := Lib.hid (show w3.heap.size ≠ g from by have := hw3.out.dr.lt; have := hw3.out.lts; omega)
      clear hblk
      refine (Q.spec_l15Rd_of.calls kn g s _ (some ⟨w3.heap.size, 0, none⟩) _ badNms n _ w0 _ (hw3.out.dr.later (below_new _ _)).is (hw3.out.dr.later (below_new _ _)).b HRB.out (Nat.le_refl _) (fun ad e _ => by cases e; exact HNE.out) HKN.out).mono ?_
      rintro e w4 ⟨rfl, hi, hb, hk⟩
      have hw4 := Lib.hid ((hw3.out.later (below_new _ _)).call hi hb hk)
      have HC7 := Lib.hid (hw4.out.put (j := 1) (u := .string n) (by simpa using blk_set hw4.out.k3 1 (.string n)))
      clear hi hb hk
      have hC := hw4.out
      obtain ⟨p0, p1_, p2, p3, p4⟩ := fm_cells hC.k3
      obtain ⟨o0, o1, o2, o3, o4⟩ := fm_free hC.k3
      obtain ⟨z0, z1, z2, z3, z4⟩ := fm_cells hC.k2
      obtain ⟨f0, f1, f2, f3, f4⟩ := fm_free hC.k2
      have hn1 : w1.heap.size ≠ w.heap.size + 1 := by have := hC.h3; omega
      have hn2 : w.heap.size + 1 ≠ w1.heap.size := fun e => hn1 e.symm
      clear hC
      obtain ⟨st1, st2, st3⟩ := st5 HC7.out.k2 (.int .i64 x.f0) (.string n) (.int .i64 x.f2) (.slice J3 x.f3.length q3) (.slice J4 x.f4.length q4)
      have HN := Lib.hid (HC7.out.newF st2)
      have HB := Lib.hid (HC7.out.dr.put5 (b := w.heap.size + 1) (by omega) (.int .i64 x.f0) (.string n) (.int .i64 x.f2) (.slice J3 x.f3.length q3) (.slice J4 x.f4.length q4))
      clear st1 st2 st3
      go_wp2_with fail
      refine bodyPost_ret (v := .agg #[.int .i64 x.f0, .string n, .int .i64 x.f2, .slice J3 x.f3.length q3, (.slice J4 x.f4.length q4)]) (by simp [results, Try.results140, go_sem, z0, z1, z2, z3, z4, hn1, hn2]) rfl ?_
      exact ⟨_, _, rfl, HN.out, HB.out.is, HB.out.b, HB.out.kp⟩
    by_cases c2 : c = 2
    · subst c2
      clear c0 c1
      obtain ⟨n, hn, rfl, rfl⟩ := H2.out rfl
      obtain ⟨kn, hkn⟩ := hn.rounds
      have HKN := Lib.hid hkn
      clear hn hkn
      go_wp2_with fail
      have hblk := blk_new w3 (.cells #[.int .i64 1000, .int .i64 (-1), .int .i64 5] 3 (0, 0))
      have HRB := Lib.hid (reads_block (l := [1000, -1, 5]) hblk (by simp) rfl)
      have HNE := Lib.hid (show w3.heap.size ≠ g from by have := hw3.out.dr.lt; have := hw3.out.lts; omega)
      clear hblk
      refine (Q.spec_l15Rd_num.calls kn g s _ (some ⟨w3.heap.size, 0, none⟩) _ [1000, -1, 5] n _ w0 _ (hw3.out.dr.later (below_new _ _)).is (hw3.out.dr.later (below_new _ _)).b HRB.out (Nat.le_refl _) (fun ad e _ => by cases e; exact HNE.out) HKN.out).mono ?_
      rintro e w4 ⟨rfl, hi, hb, hk⟩
      have hw4 := Lib.hid ((hw3.out.later (below_new _ _)).call hi hb hk)
      have HC7 := Lib.hid (hw4.out.put (j := 2) (u := .int .i64 n) (by simpa using blk_set hw4.out.k3 2 (.int .i64 n)))
      clear hi hb hk
      have hC := hw4.out
      obtain ⟨p0, p1_, p2, p3, p4⟩ := fm_cells hC.k3
      obtain ⟨o0, o1, o2, o3, o4⟩ := fm_free hC.k3
      obtain ⟨z0, z1, z2, z3, z4⟩ := fm_cells hC.k2
      obtain ⟨f0, f1, f2, f3, f4⟩ := fm_free hC.k2
      have hn1 : w1.heap.size ≠ w.heap.size + 1 := by have := hC.h3; omega
      have hn2 : w.heap.size + 1 ≠ w1.heap.size := fun e => hn1 e.symm
      clear hC
      obtain ⟨st1, st2, st3⟩ := st5 HC7.out.k2 (.int .i64 x.f0) (.string x.f1) (.int .i64 n) (.slice J3 x.f3.length q3) (.slice J4 x.f4.length q4)
      have HN := Lib.hid (HC7.out.newF st2)
      have HB := Lib.hid (HC7.out.dr.put5 (b := w.heap.size + 1) (by omega) (.int .i64 x.f0) (.string x.f1) (.int .i64 n) (.slice J3 x.f3.length q3) (.slice J4 x.f4.length q4))
      clear st1 st2 st3
      go_wp2_with fail
      refine bodyPost_ret (v := .agg #[.int .i64 x.f0, .string x.f1, .int .i64 n, .slice J3 x.f3.length q3, (.slice J4 x.f4.length q4)]) (by simp [results, Try.results140, go_sem, z0, z1, z2, z3, z4, hn1, hn2]) rfl ?_
      exact ⟨_, _, rfl, HN.out, HB.out.is, HB.out.b, HB.out.kp⟩
    by_cases c3_ : c = 3
    · subst c3_
      clear c0 c1 c2
      obtain ⟨n, hn, rfl, rfl⟩ := HS3.out rfl
      obtain ⟨kn, hkn⟩ := hn.rounds
      have HKN := Lib.hid hkn
      clear hn hkn
      have hp3 := (fm_cells hw3.out.k3).2.2.2.1
      go_wp2_with fail
      have HD := Lib.hid (hw3.out.later (below_drew (Below.refl _ _)))
      refine start_ (n := 9) (S := (fun W : World => W.cell? ⟨w1.heap.size, 3, none⟩ = some (.slice J3 x.f3.length q3))) (ds := [8]) #[false, false, false, false, false, false, false, false, false] (by kernel_rfl) rfl rfl (fm_cells HD.out.k3).2.2.2.1 (fun hHeld => ?_)
      clear hp3
      generalize w3.drew = wd at HD hHeld ⊢
      refine pure_ (i := 0) (N := some 57) (v := ?_) (a' := ?_) #[true, false, false, false, false, false, false, false, false] rfl rfl (by kernel_rfl) (fun _ _ _ h => h) (Or.inl ⟨by rfl, ?_⟩) ?_ ?_
      rotate_left
      · intro w'
        go_simp
        with_reducible rfl
      rotate_left
      · simp only [Act.put, List.setIfInBounds_toArray, List.set_cons_zero, List.set_cons_succ, i64_w, i32_w]
        rfl
      refine pure_ (i := 2) (N := some 59) (v := ?_) (a' := ?_) #[true, false, true, false, false, false, false, false, false] rfl rfl (by kernel_rfl) (fun _ _ _ h => h) (Or.inl ⟨by rfl, ?_⟩) ?_ ?_
      rotate_left
      · intro w'
        go_simp
        with_reducible rfl
      rotate_left
      · simp only [Act.put, List.setIfInBounds_toArray, List.set_cons_zero, List.set_cons_succ, i64_w, i32_w]
        rfl
      refine take_ (i := 1) (N := some 58) (v := ?_) (a' := ?_) #[true, true, true, false, false, false, false, false, false] rfl rfl (by kernel_rfl) (fun _ _ _ h => h) (Or.inl ⟨by rfl, ?_⟩) hHeld ?_ ?_
      rotate_left
      · rintro w' s0
        go_simp
        with_reducible rfl
      rotate_left
      · simp only [Act.put, List.setIfInBounds_toArray, List.set_cons_zero, List.set_cons_succ, i64_w, i32_w]
        rfl
      refine one_ (i := 3) (N := some 60) #[true, true, true, true, false, false, false, false, false] rfl rfl (by kernel_rfl) (by decide) (fun K hK => ?_)
      refine value_ (w1 := ?_) (v := ?_) (by rfl) rfl ?_ ?_
      rotate_left 2
      · go_simp
        constructor
        · rfl
        · rfl
      refine hK.out _ _ (fm_cells (HD.out.later (below_new _ _)).k3).2.2.2.1 (fun hHeld => ?_)
      clear hK K
      refine norm_ (a' := ?_) ?_ ?_
      rotate_left
      · show Act.put _ (some 60) _ = _
        simp only [Act.put, List.setIfInBounds_toArray, List.set_cons_zero, List.set_cons_succ, i64_w, i32_w]
        rfl
      have hblk := blk_new wd (.cells #[.int .i64 0, .int .i64 100, .int .i64 1, .int .i64 50] 3 (0, 0))
      have HRB := Lib.hid (reads_block (l := [0, 100, 1, 50]) hblk (by simp) rfl)
      have HNE := Lib.hid (show wd.heap.size ≠ g from by have := HD.out.dr.lt; have := HD.out.lts; omega)
      clear hblk
      refine one_ (i := 4) (N := some 61) #[true, true, true, true, true, false, false, false, false] rfl rfl (by kernel_rfl) (by decide) (fun K hK => ?_)
      refine goes_ Try.func126 (by kernel_rfl) rfl #[.pointer (some ⟨g, 0, none⟩), .slice (some ⟨wd.heap.size, 0, none⟩) 4 4] (by rfl) rfl rfl (by (try simp only [List.map_toArray, List.map_cons, List.map_nil]); first | done | rfl) ?_
      refine (Q.spec_l15Rd_num.calls kn g s _ (some ⟨wd.heap.size, 0, none⟩) _ [0, 100, 1, 50] n _ w0 _ (HD.out.dr.later (below_new _ _)).is (HD.out.dr.later (below_new _ _)).b HRB.out (Nat.le_refl _) (fun ad e _ => by cases e; exact HNE.out) HKN.out).mono ?_
      rintro e w4 ⟨rfl, hi, hb, hk⟩
      refine ⟨_, rfl, ?_⟩
      have hw4 := Lib.hid ((HD.out.later (below_new _ _)).call hi hb hk)
      clear hi hb hk
      refine hK.out _ _ (fm_cells hw4.out.k3).2.2.2.1 (fun hHeld => ?_)
      clear hK K
      refine norm_ (a' := ?_) ?_ ?_
      rotate_left
      · show Act.put _ (some 61) _ = _
        simp only [Act.put, List.setIfInBounds_toArray, List.set_cons_zero, List.set_cons_succ, i64_w, i32_w]
        rfl
      refine one_ (i := 5) (N := some 62) #[true, true, true, true, true, true, false, false, false] rfl rfl (by kernel_rfl) (by decide) (fun K hK => ?_)
      refine value_ (w1 := ?_) (v := ?_) (by rfl) rfl ?_ ?_
      rotate_left 2
      · go_simp
        constructor
        · rfl
        · rfl
      refine hK.out _ _ (fm_cells (hw4.out.later (below_new _ _)).k3).2.2.2.1 (fun hHeld => ?_)
      clear hK K
      refine norm_ (a' := ?_) ?_ ?_
      rotate_left
      · show Act.put _ (some 62) _ = _
        simp only [Act.put, List.setIfInBounds_toArray, List.set_cons_zero, List.set_cons_succ, i64_w, i32_w]
        rfl
      refine one_ (i := 6) (N := some 63) #[true, true, true, true, true, true, true, false, false] rfl rfl (by kernel_rfl) (by decide) (fun K hK => ?_)
      refine step_append_cells (w0 := w0) (W := w4) w0.heap.size (by rfl) (.tmp 58) (.tmp 62) 23 3 (.int .i64 0) 1 8 rfl Try.underlying23 infoI rfl (by decide) (by omega) (.slice J3 x.f3.length q3) x.f3.length (encI x.f3) [.int .i64 n] rfl rfl rfl (by simp [Value.oneCell']) (own_base_ hw4.out.o3 (fun b hb => by have := (hw4.out.own3 b hb).1; have := keep_size hw4.out.dr.kp; have := HD0.out.b.size; omega)) hw4.out.dr.b hw4.out.dr.b.size (by have := HL3.out; omega) ?_
      intro v' w8 ho hb8 hg8 hat8
      have ho8 : w8.ownsRow 0 3 1 v' (x.f3 ++ [n]).length (encI (x.f3 ++ [n])) := by
        rw [List.length_append, show encI (x.f3 ++ [n]) = encI x.f3 ++ [.int .i64 n] from by simp [encs]]
        exact own_weaken ho (Nat.zero_le _)
      have hdp8 := hw4.out.scopes hg8 (hw4.out.own3) ho8 (fun b hb => by
        rcases hat8 with h | ⟨c, h, hc⟩
        · exact hw4.out.own3 b (h ▸ hb)
        · rw [h] at hb; cases hb; exact hw4.out.fresh hc)
      have hk38 := (hg8.block _ hw4.out.lts.2 (fun e => (hw4.out.own3 _ e.symm).2.1 rfl)).trans hw4.out.k3
      have hv' : ∃ A c, v' = .slice A (x.f3.length + 1) c := by
        rcases ho with ⟨_, ⟨rfl, h0⟩ | ⟨g, cap, cur, rfl, _⟩⟩
        · exact absurd h0 (by omega)
        · exact ⟨_, _, rfl⟩
      obtain ⟨A', c', rfl⟩ := hv'
      have HC7 := Lib.hid hdp8
      have HK38 := Lib.hid hk38
      clear ho hb8 hg8 hat8 ho8 hdp8 hk38
      refine hK.out _ _ (fm_cells HK38.out).2.2.2.1 (fun hHeld => ?_)
      clear hK K
      refine norm_ (a' := ?_) ?_ ?_
      rotate_left
      · show Act.put _ (some 63) _ = _
        simp only [Act.put, List.setIfInBounds_toArray, List.set_cons_zero, List.set_cons_succ, i64_w, i32_w]
        rfl
      refine pure_ (i := 7) (N := some 64) (v := ?_) (a' := ?_) #[true, true, true, true, true, true, true, true, false] rfl rfl (by kernel_rfl) (fun _ _ _ h => h) (Or.inl ⟨by rfl, ?_⟩) ?_ ?_
      rotate_left
      · intro w'
        go_simp
        with_reducible rfl
      rotate_left
      · simp only [Act.put, List.setIfInBounds_toArray, List.set_cons_zero, List.set_cons_succ, i64_w, i32_w]
        rfl
      refine last_ (i := 8) (N := none) #[true, true, true, true, true, true, true, true, true] rfl rfl (by kernel_rfl) (by decide) (fun K hK => ?_)
      have z3 := (fm_cells HK38.out).2.2.2.1
      have f3 := (fm_free HK38.out).2.2.2.1
      refine skip_ (w1 := ?_) (by rfl) rfl ?_ ?_
      rotate_left
      · go_simp
        rfl
      refine hK.out _ _ ?_
      clear hK K
      clear z3 f3
      refine done_ (by kernel_rfl) ?_
      have hl9 : (x.f3 ++ [n]).length = x.f3.length + 1 := by simp
      have hC := HC7.out
      obtain ⟨p0, p1_, p2, p3, p4⟩ := fm_cells hC.k3
      obtain ⟨o0, o1, o2, o3, o4⟩ := fm_free hC.k3
      obtain ⟨z0, z1, z2, z3, z4⟩ := fm_cells hC.k2
      obtain ⟨f0, f1, f2, f3, f4⟩ := fm_free hC.k2
      have hn1 : w1.heap.size ≠ w.heap.size + 1 := by have := hC.h3; omega
      have hn2 : w.heap.size + 1 ≠ w1.heap.size := fun e => hn1 e.symm
      clear hC
      obtain ⟨st1, st2, st3⟩ := st5 HC7.out.k2 (.int .i64 x.f0) (.string x.f1) (.int .i64 x.f2) (.slice A' (x.f3.length + 1) c') (.slice J4 x.f4.length q4)
      have HN := Lib.hid (HC7.out.newF st2)
      have HB := Lib.hid (HC7.out.dr.put5 (b := w.heap.size + 1) (by omega) (.int .i64 x.f0) (.string x.f1) (.int .i64 x.f2) (.slice A' (x.f3.length + 1) c') (.slice J4 x.f4.length q4))
      clear st1 st2 st3
      have HL9 := Lib.hid hl9
      clear hl9
      go_wp2_with fail
      refine bodyPost_ret (v := .agg #[.int .i64 x.f0, .string x.f1, .int .i64 x.f2, .slice A' (x.f3.length + 1) c', .slice J4 x.f4.length q4]) (by simp [results, Try.results140, go_sem, z0, z1, z2, z3, z4]) rfl ?_
      exact ⟨_, _, rfl, HN.out, HB.out.is, HB.out.b, HB.out.kp⟩
    · obtain ⟨rfl, rfl⟩ := H4.out c0 c1 c2 c3_
      have e0 : (c == 0) = false := beq_eq_false_iff_ne.mpr c0
      have e1 : (c == 1) = false := beq_eq_false_iff_ne.mpr c1
      have e2 : (c == 2) = false := beq_eq_false_iff_ne.mpr c2
      have e3 : (c == 3) = false := beq_eq_false_iff_ne.mpr c3_
      clear c0 c1 c2 c3_
      have hC := hw3.out
      obtain ⟨p0, p1_, p2, p3, p4⟩ := fm_cells hC.k3
      obtain ⟨o0, o1, o2, o3, o4⟩ := fm_free hC.k3
      obtain ⟨z0, z1, z2, z3, z4⟩ := fm_cells hC.k2
      obtain ⟨f0, f1, f2, f3, f4⟩ := fm_free hC.k2
      have hn1 : w1.heap.size ≠ w.heap.size + 1 := by have := hC.h3; omega
      have hn2 : w.heap.size + 1 ≠ w1.heap.size := fun e => hn1 e.symm
      clear hC
      obtain ⟨st1, st2, st3⟩ := st5 hw3.out.k2 (.int .i64 x.f0) (.string x.f1) (.int .i64 x.f2) (.slice J3 x.f3.length q3) (.slice J4 x.f4.length q4)
      have HN := Lib.hid (hw3.out.newF st2)
      have HB := Lib.hid (hw3.out.dr.put5 (b := w.heap.size + 1) (by omega) (.int .i64 x.f0) (.string x.f1) (.int .i64 x.f2) (.slice J3 x.f3.length q3) (.slice J4 x.f4.length q4))
      clear st1 st2 st3
      go_wp2_with fail
      refine bodyPost_ret (v := .agg #[.int .i64 x.f0, .string x.f1, .int .i64 x.f2, .slice J3 x.f3.length q3, (.slice J4 x.f4.length q4)]) (by simp [results, Try.results140, go_sem, z0, z1, z2, z3, z4]) rfl ?_
      exact ⟨_, _, rfl, HN.out, HB.out.is, HB.out.b, HB.out.kp⟩
end Go.Proofs.Yteonncnhhccgeaa
end
section
namespace Go.Proofs.Yteonncnhhccgeaa
set_option linter.unusedVariables false
def Bn : Nat → Nat
  | 0 => 13
  | d + 1 => 13 + 3 * (Bn d + 1)
theorem Bn_le {d : Nat} (h : d ≤ 4) : Bn d ≤ 1693 := by
  rcases (show d = 0 ∨ d = 1 ∨ d = 2 ∨ d = 3 ∨ d = 4 by omega) with rfl | rfl | rfl | rfl | rfl <;> decide
theorem Bn_pos (d : Nat) : 13 ≤ Bn d := by
  cases d <;> simp [Bn]
theorem set_totL (l : List Fm) (i : Nat) (h : i < l.length) (y : Fm) : totL (l.set i y) + l[i].tot = totL l + y.tot := by
  induction l generalizing i with
  | nil => simp at h
  | cons a l ih =>
    cases i with
    | zero => simp [totL]; omega
    | succ i =>
      have := ih i (by simpa using h)
      simp only [List.set_cons_succ, totL, List.getElem_cons_succ]
      omega
theorem set_sizes (l : List Fm) (i : Nat) (h : i < l.length) (y : Fm) : sizes (l.set i y) + l[i].size = sizes l + y.size := by
  induction l generalizing i with
  | nil => simp at h
  | cons a l ih =>
    cases i with
    | zero => simp [sizes]; omega
    | succ i =>
      have := ih i (by simpa using h)
      simp only [List.set_cons_succ, sizes, List.getElem_cons_succ]
      omega
abbrev nms : List ByteArray := [(⟨#[97]⟩ : ByteArray), (⟨#[98]⟩ : ByteArray), (⟨#[120]⟩ : ByteArray), (⟨#[121]⟩ : ByteArray), (⟨#[102]⟩ : ByteArray), (⟨#[105, 102]⟩ : ByteArray), (⟨#[108, 101, 116]⟩ : ByteArray), (⟨#[43]⟩ : ByteArray)]
theorem names_small : ∀ v, v ∈ nms → v.size ≤ 13 := by
  intro v hv
  simp only [List.mem_cons, List.not_mem_nil, or_false] at hv
  rcases hv with h | h | h | h | h | h | h | h <;> (rw [h]; decide)
end Go.Proofs.Yteonncnhhccgeaa
end
section
namespace Go.Proofs.Yteonncnhhccgeaa
open Go.RowKit Go.Proofs.YteonncnhhccgeaaW.PrintWords
set_option linter.unusedVariables false
set_option linter.unusedSimpArgs false
theorem badNms_small : ∀ v, v ∈ badNms → v.size ≤ 13 := by
  intro v hv
  simp only [badNms, List.mem_cons, List.not_mem_nil, or_false] at hv
  rcases hv with h | h | h | h | h <;> (rw [h]; decide)
theorem mutate_ex {s : List Int} (hs : Bts s) : ∀ x : Fm, x.tot ≤ 200000 → ∀ p : Nat, p + 3 * x.size ≤ 1000000 → ∃ (y : Fm) (q : Nat), q ≤ p + 3 * x.size ∧ y.tot ≤ x.tot + 14 ∧ y.size = x.size ∧ MutOk s x p y q := by
  intro x
  induction x using Fm.ind with
  | h x ih =>
  intro ht p hp
  have hsz := x.size_eq
  have htt := x.tot_eq
  have leaf : ∀ p1 : Nat, p1 + 2 ≤ 1000000 → ((x.f4 = [] ∧ p1 = p) ∨ (x.f4 ≠ [] ∧ p1 = p + 1 ∧ ∃ v : Int, v ≤ 0 ∧ Ev (fun k => Q.spec_l15Rd_pick.f k s (p : Int) 2) (v, ((p + 1 : Nat) : Int)))) → ∃ (y : Fm) (q : Nat), q ≤ p1 + 2 ∧ y.tot ≤ x.tot + 14 ∧ y.size = x.size ∧ MutOk s x p y q := by
    intro p1 hp1 hpre
    obtain ⟨c, hc, e1⟩ := ev_pick hs p1 (by omega) 14 (by omega)
    obtain ⟨n0, _, e2⟩ := ev_num hs (p1 + 1) (by omega) [0, 4, 1, 3] (by simp) (by simp)
    obtain ⟨n1, hn1, e3⟩ := ev_of hs (p1 + 1) (by omega) badNms (by simp) (by simp)
    obtain ⟨n2, _, e4⟩ := ev_num hs (p1 + 1) (by omega) [1000, -1, 5] (by simp) (by simp)
    obtain ⟨n3, _, e5⟩ := ev_num hs (p1 + 1) (by omega) [0, 100, 1, 50] (by simp) (by simp)
    have hb := badNms_small n1 hn1
    by_cases c0 : c = 0
    · exact ⟨⟨n0, x.f1, x.f2, x.f3, x.f4⟩, p1 + 2, by omega, by rw [Fm.tot_eq]; dsimp only; omega, by rw [Fm.size_eq]; dsimp only; omega, mut_stop x p p1 _ c _ ht hpre e1 (fun _ => ⟨n0, e2, rfl, rfl⟩) (fun h => by omega) (fun h => by omega) (fun h => by omega) (fun h => absurd c0 h)⟩
    by_cases c1 : c = 1
    · exact ⟨⟨x.f0, n1, x.f2, x.f3, x.f4⟩, p1 + 2, by omega, by rw [Fm.tot_eq]; dsimp only; omega, by rw [Fm.size_eq]; dsimp only; omega, mut_stop x p p1 _ c _ ht hpre e1 (fun h => absurd h c0) (fun _ => ⟨n1, e3, rfl, rfl⟩) (fun h => by omega) (fun h => by omega) (fun _ h => absurd c1 h)⟩
    by_cases c2 : c = 2
    · exact ⟨⟨x.f0, x.f1, n2, x.f3, x.f4⟩, p1 + 2, by omega, by rw [Fm.tot_eq]; dsimp only; omega, by rw [Fm.size_eq]; dsimp only; omega, mut_stop x p p1 _ c _ ht hpre e1 (fun h => absurd h c0) (fun h => absurd h c1) (fun _ => ⟨n2, e4, rfl, rfl⟩) (fun h => by omega) (fun _ _ h => absurd c2 h)⟩
    by_cases c3 : c = 3
    · exact ⟨⟨x.f0, x.f1, x.f2, x.f3 ++ [n3], x.f4⟩, p1 + 2, by omega, by rw [Fm.tot_eq]; simp only [List.length_append, List.length_cons, List.length_nil]; omega, by rw [Fm.size_eq]; dsimp only; omega, mut_stop x p p1 _ c _ ht hpre e1 (fun h => absurd h c0) (fun h => absurd h c1) (fun h => absurd h c2) (fun _ => ⟨n3, e5, rfl, rfl⟩) (fun _ _ _ h => absurd c3 h)⟩
    · exact ⟨⟨x.f0, x.f1, x.f2, x.f3, x.f4⟩, p1 + 1, by omega, by rw [Fm.tot_eq]; dsimp only; omega, by rw [Fm.size_eq]; dsimp only; omega, mut_stop x p p1 _ c _ ht hpre e1 (fun h => absurd h c0) (fun h => absurd h c1) (fun h => absurd h c2) (fun h => absurd h c3) (fun _ _ _ _ => ⟨rfl, rfl⟩)⟩
  by_cases h0 : x.f4 = []
  · obtain ⟨y, q, g1, g2, g3, g4⟩ := leaf p (by omega) (.inl ⟨h0, rfl⟩)
    exact ⟨y, q, by omega, g2, g3, g4⟩
  · obtain ⟨v, hv, e1⟩ := ev_pick hs p (by omega) 2 (by omega)
    have hl := List.length_pos_iff.2 h0
    have hone : 1 ≤ sizes x.f4 := by
      have := sizes_mem (List.getElem_mem hl)
      have := (x.f4[0]'hl).size_eq
      omega
    by_cases hz : 0 < v
    · obtain ⟨n, hn, e2⟩ := ev_pick hs (p + 1) (by omega) (x.f4.length : Int) (by have := len_totL x.f4; omega)
      obtain ⟨m, rfl⟩ := Int.eq_ofNat_of_zero_le (hn (by omega)).1
      have hm : m < x.f4.length := by have := (hn (by omega)).2; omega
      have hk := totL_mem (List.getElem_mem hm)
      have hsm := sizes_mem (List.getElem_mem hm)
      obtain ⟨y, q, g1, g2, g3, g4⟩ := ih _ (List.getElem_mem hm) (by omega) (p + 2) (by omega)
      have hst := set_totL x.f4 m hm y
      have hss := set_sizes x.f4 m hm y
      have hse : x.f4.set m y = x.f4.take m ++ y :: x.f4.drop (m + 1) := List.set_eq_take_append_cons_drop.trans (by rw [if_pos hm])
      rw [hse] at hst hss
      exact ⟨⟨x.f0, x.f1, x.f2, x.f3, x.f4.take m ++ y :: x.f4.drop (m + 1)⟩, q, by omega, by rw [Fm.tot_eq]; dsimp only; omega, by rw [Fm.size_eq]; dsimp only; omega, mut_rec x p q v m y ht hm hz e1 e2 g4⟩
    · obtain ⟨y, q, g1, g2, g3, g4⟩ := leaf (p + 1) (by omega) (.inr ⟨h0, rfl, v, by omega, e1⟩)
      exact ⟨y, q, by omega, g2, g3, g4⟩
end Go.Proofs.Yteonncnhhccgeaa
end
section
namespace Go.Proofs.Yteonncnhhccgeaa.Q
open Go.RowKit Go.Proofs.YteonncnhhccgeaaW.PrintWords Go.Proofs.YteonncnhhccgeaaW.PrintLast Go.Proofs.YteonncnhhccgeaaW.PrintMore
attribute [local go_sem] max2_int min2_int max_two min_two max_three min_three max_four min_four   -- for this text's walks alone
set_option linter.unusedVariables false
set_option linter.unusedSimpArgs false

/-! ### spec_l1Some: function 112 -/
mutual
def spec_l1Some.j0 : Nat → Int → Bool → List Int → Int → Option (Int × ByteArray × Int × List Int × (List (S31)) × Int)
  | 0, _, _, _, _ => none
  | k + 1, x1, x13, x1000, x1001 => if x13 = true then ((spec_l15Rd_pick.f k x1000 x1001 4).bind fun bt117 => (if bt117.1 = 0 then ((spec_l15Rd_num.f k x1000 bt117.2 (([0, 1, 2, 7, 42, 999] : List Int))).bind fun bt122 => (some (2, (⟨#[]⟩ : ByteArray), bt122.1, ([] : List Int), ([] : List (S31)), bt122.2))) else ((spec_l15Rd_of.f k x1000 bt117.2 (([(⟨#[97]⟩ : ByteArray), (⟨#[98]⟩ : ByteArray), (⟨#[120]⟩ : ByteArray), (⟨#[121]⟩ : ByteArray), (⟨#[102]⟩ : ByteArray), (⟨#[105, 102]⟩ : ByteArray), (⟨#[108, 101, 116]⟩ : ByteArray), (⟨#[43]⟩ : ByteArray)] : List ByteArray))).bind fun bt127 => ((spec_l1Name.f bt127.1).bind fun bt129 => (some (bt129.1, bt129.2.1, bt129.2.2.1, bt129.2.2.2.1, bt129.2.2.2.2, bt127.2)))))) else ((spec_l15Rd_pick.f k x1000 x1001 4).bind fun bt139 => (spec_l1Some.l0 k x1 bt139.1 x1000 bt139.2 3 (⟨#[]⟩ : ByteArray) 0 ([] : List (S31))))
def spec_l1Some.l0 : Nat → Int → Int → List Int → Int → Int → ByteArray → Int → List (S31) → Option (Int × ByteArray × Int × List Int × (List (S31)) × Int)
  | 0, _, _, _, _, _, _, _, _ => none
  | k + 1, x1, x6, x1000, x1001, x139000, x139001, x139002, x139004 => if x6 > 0 then ((spec_l1Some.f k x1000 x1001 (wrap64 (x1 - 1))).bind fun bt141 => (if x139004.length < 1759218604441 then (spec_l1Some.l0 k x1 (wrap64 (x6 - 1)) x1000 bt141.2.2.2.2.2 x139000 x139001 x139002 (x139004 ++ [(⟨bt141.1, bt141.2.1, bt141.2.2.1, bt141.2.2.2.1, bt141.2.2.2.2.1⟩ : S31)])) else (none))) else (some (x139000, x139001, x139002, ([] : List Int), x139004, x1001))
def spec_l1Some.f : Nat → List Int → Int → Int → Option (Int × ByteArray × Int × List Int × (List (S31)) × Int)
  | 0, _, _, _ => none
  | k + 1, s0_0, s0_1, a1 => if a1 = 0 then (spec_l1Some.j0 k a1 true s0_0 s0_1) else ((spec_l15Rd_pick.f k s0_0 s0_1 3).bind fun bt115 => (spec_l1Some.j0 k a1 (bt115.1 == 0) s0_0 bt115.2))
end
theorem spec_l1Some.mono_l : ∀ k, (∀ y0 y1 y2, LeO (spec_l1Some.f k y0 y1 y2) (spec_l1Some.f (k + 1) y0 y1 y2)) ∧ (∀ y0 y1 y2 y3, LeO (spec_l1Some.j0 k y0 y1 y2 y3) (spec_l1Some.j0 (k + 1) y0 y1 y2 y3)) ∧ (∀ y0 y1 y2 y3 y4 y5 y6 y7, LeO (spec_l1Some.l0 k y0 y1 y2 y3 y4 y5 y6 y7) (spec_l1Some.l0 (k + 1) y0 y1 y2 y3 y4 y5 y6 y7))
  | 0 => ⟨fun _ _ _ r h => by simp [spec_l1Some.f] at h, fun _ _ _ _ r h => by simp [spec_l1Some.j0] at h, fun _ _ _ _ _ _ _ _ r h => by simp [spec_l1Some.l0] at h⟩
  | k + 1 => by
    obtain ⟨ih0, ih1, ih2⟩ := spec_l1Some.mono_l k
    refine ⟨?_, ?_, ?_⟩
    · intro y0 y1 y2
      unfold spec_l1Some.f
      repeat' first
      | (with_reducible exact ih0 _ _ _)
      | (with_reducible exact ih1 _ _ _ _)
      | (with_reducible exact ih2 _ _ _ _ _ _ _ _)
      | (with_reducible exact spec_l15Rd_num.mono _ _ _ _)
      | (with_reducible exact spec_l15Rd_of.mono _ _ _ _)
      | (with_reducible exact spec_l15Rd_pick.mono _ _ _ _)
      | (with_reducible exact LeO.refl _)
      | (with_reducible exact LeO.none _)
      | (with_reducible refine LeO.ite ?_ ?_)
      | (with_reducible refine LeO.bind ?_ (fun _ => ?_))
      | exact ih0 _ _ _
      | exact ih1 _ _ _ _
      | exact ih2 _ _ _ _ _ _ _ _
      | exact spec_l15Rd_num.mono _ _ _ _
      | exact spec_l15Rd_of.mono _ _ _ _
      | exact spec_l15Rd_pick.mono _ _ _ _
      | exact LeO.none _
      | refine LeO.ite ?_ ?_
      | refine LeO.bind ?_ (fun _ => ?_)
    · intro y0 y1 y2 y3
      unfold spec_l1Some.j0
      repeat' first
      | (with_reducible exact ih0 _ _ _)
      | (with_reducible exact ih1 _ _ _ _)
      | (with_reducible exact ih2 _ _ _ _ _ _ _ _)
      | (with_reducible exact spec_l15Rd_num.mono _ _ _ _)
      | (with_reducible exact spec_l15Rd_of.mono _ _ _ _)
      | (with_reducible exact spec_l15Rd_pick.mono _ _ _ _)
      | (with_reducible exact LeO.refl _)
      | (with_reducible exact LeO.none _)
      | (with_reducible refine LeO.ite ?_ ?_)
      | (with_reducible refine LeO.bind ?_ (fun _ => ?_))
      | exact ih0 _ _ _
      | exact ih1 _ _ _ _
      | exact ih2 _ _ _ _ _ _ _ _
      | exact spec_l15Rd_num.mono _ _ _ _
      | exact spec_l15Rd_of.mono _ _ _ _
      | exact spec_l15Rd_pick.mono _ _ _ _
      | exact LeO.none _
      | refine LeO.ite ?_ ?_
      | refine LeO.bind ?_ (fun _ => ?_)
    · intro y0 y1 y2 y3 y4 y5 y6 y7
      unfold spec_l1Some.l0
      repeat' first
      | (with_reducible exact ih0 _ _ _)
      | (with_reducible exact ih1 _ _ _ _)
      | (with_reducible exact ih2 _ _ _ _ _ _ _ _)
      | (with_reducible exact spec_l15Rd_num.mono _ _ _ _)
      | (with_reducible exact spec_l15Rd_of.mono _ _ _ _)
      | (with_reducible exact spec_l15Rd_pick.mono _ _ _ _)
      | (with_reducible exact LeO.refl _)
      | (with_reducible exact LeO.none _)
      | (with_reducible refine LeO.ite ?_ ?_)
      | (with_reducible refine LeO.bind ?_ (fun _ => ?_))
      | exact ih0 _ _ _
      | exact ih1 _ _ _ _
      | exact ih2 _ _ _ _ _ _ _ _
      | exact spec_l15Rd_num.mono _ _ _ _
      | exact spec_l15Rd_of.mono _ _ _ _
      | exact spec_l15Rd_pick.mono _ _ _ _
      | exact LeO.none _
      | refine LeO.ite ?_ ?_
      | refine LeO.bind ?_ (fun _ => ?_)
theorem spec_l1Some.mono : ∀ a0 a1 a2 k, LeO (spec_l1Some.f k a0 a1 a2) (spec_l1Some.f (k + 1) a0 a1 a2) := by
  intro a0 a1 a2 k
  obtain ⟨ih0, ih1, ih2⟩ := spec_l1Some.mono_l k
  exact ih0 a0 a1 a2
def spec_l1Some.T9 : Bool × List (List Nat × List Nat) := (true, [([], []), ([0], [0]), ([], []), ([], []), ([3], [3]), ([2, 4], [2, 4]), ([5], [5]), ([1, 6, 5], [1, 6]), ([0, 1, 2, 3, 4, 5, 6, 7], []), ([8, 7, 7, 0, 1, 2, 3, 4, 5, 6, 7], [7, 8])])
def spec_l1Some.B9 : List Nat := [0, 1, 0, 0, 8, 28, 60, 127, 255, 511]
theorem spec_l1Some.tab9 : rtab .any (opsOf Try.f112 9) = spec_l1Some.T9 := by kernel_rfl
theorem spec_l1Some.bits9 : waitsOk spec_l1Some.T9.2 spec_l1Some.B9 = true := by kernel_rfl
set_option maxHeartbeats 8000000 in
set_option maxRecDepth 100000 in
theorem spec_l1Some.calls (k : Nat) : ∀ (g : Nat) (s0_0 : List Int) (s0_1 : Int) (a1 : Int) (r1 : Int) (r2 : ByteArray) (r3 : Int) (r4 : List Int) (r5 : List (S31)) (r6 : Int) (w0 w : World) (hI : IsS104 w0 w g s0_0 s0_1) (hB : Below w0.heap.size w0 w) (h : spec_l1Some.f k s0_0 s0_1 a1 = some (r1, r2, r3, r4, r5, r6)),
    Calls Try.prog 112 #[.pointer (some ⟨g, 0, none⟩), .int .i64 a1] w fun e w' => ∃ v3_ v4_ : Value, e = .returned (.agg #[.int .i64 r1, .string r2, .int .i64 r3, v3_, v4_]) ∧ Kd.R (Kd.int .i64) 3 w' w.heap.size (fun _ => True) v3_ r4 ∧ Kd.R k31 31 w' w.heap.size (fun k_ => some k_ ≠ (v3_ : Value).ownBlock) v4_ r5 ∧ IsS104 w0 w' g s0_0 r6 ∧ Below w0.heap.size w0 w' ∧ KeepBut w w' g none := by
  induction k using Nat.strongRecOn with
  | _ k ih =>
  intro g s0_0 s0_1 a1 r1 r2 r3 r4 r5 r6 w0 w hI hB h
  cases k with
  | zero => exact absurd h (by simp [spec_l1Some.f])
  | succ k =>
  simp only [spec_l1Some.f] at h
  have hu31 := Try.underlying31
  have HI0 := Aside0.mk hI
  have HK := Aside0.mk (KeepBut.refl w g none)
  have HL := Aside0.mk hB.size
  clear hI
  have HW0 := Aside0.mk hB.size
  have HB := Aside0.mk hB
  clear hB
  have H : (if a1 = 0 then (spec_l1Some.j0 k a1 true s0_0 s0_1) else ((spec_l15Rd_pick.f k s0_0 s0_1 3).bind fun bt115 => (spec_l1Some.j0 k a1 (bt115.1 == 0) s0_0 bt115.2))) = some (r1, r2, r3, r4, r5, r6) := h
  clear h
  have HC3 := Aside0.mk H
  clear H
  go_enter Try.func112, Try.ntmps112
  go_upto_region 1 with (first | ((with_reducible refine gate_dst (N := 4) rfl ?_); refine box_event ?hg (N := 4) ?hd (cs := #[.int .i64 0, .string (⟨#[]⟩ : ByteArray), .int .i64 0, .slice none 0 0, .slice none 0 0]) (t := 31) ?hr ?_; (case hd => rfl); (case hg => rfl); (case hr => first | (go_simp; done) | (go_simp; rfl)); intro gb114 hg w4 hbox hb; have n0_ := Aside0.mk (IsS104.below (by repeat (first | (with_reducible first | exact HI0.out | apply IsS104.alloc | apply IsS104.drewN | apply IsS104.drew | apply IsS104.set_1) | exact HI0.out)) hb); have n1_ := Aside0.mk (KeepBut.trans (by repeat (first | (with_reducible first | exact HK.out | apply KeepBut.set_ | apply keep_drewN | apply keep_drew | apply keep_alloc) | exact HK.out)) (KeepBut.of_below hb g none) (.inl rfl)); have n2_ := Aside0.mk (below_step (by repeat (first | (with_reducible first | exact HB.out | apply below_alloc | apply pw_below_drewN | apply below_drew1 | refine below_set ?_ (IsS104.ge HI0.out)) | exact HB.out)) hb); have n3_ := Aside0.mk (hbox); have n4_ := Aside0.mk ((by rw [hg]; exact (keep_size (w := w) (g := g) (row := none) (by repeat (first | (with_reducible first | exact HK.out | apply KeepBut.set_ | apply keep_drewN | apply keep_drew | apply keep_alloc) | exact HK.out))) : w.heap.size ≤ gb114)); have n5_ := Aside0.mk ((Nat.le_trans HW0.out (by rw [hg]; exact (keep_size (w := w) (g := g) (row := none) (by repeat (first | (with_reducible first | exact HK.out | apply KeepBut.set_ | apply keep_drewN | apply keep_drew | apply keep_alloc) | exact HK.out))) : w.heap.size ≤ gb114) : w0.heap.size ≤ gb114)); have n6_ := Aside0.mk ((by rw [hg]; exact Nat.ne_of_lt (IsS104.lt (show IsS104 w0 _ g s0_0 s0_1 from by repeat (first | (with_reducible first | exact HI0.out | apply IsS104.alloc | apply IsS104.drewN | apply IsS104.drew | apply IsS104.set_1) | exact HI0.out))) : g ≠ gb114)); have n7_ := Aside0.mk ((by rw [hg]; exact Nat.ne_of_gt (IsS104.lt (show IsS104 w0 _ g s0_0 s0_1 from by repeat (first | (with_reducible first | exact HI0.out | apply IsS104.alloc | apply IsS104.drewN | apply IsS104.drew | apply IsS104.set_1) | exact HI0.out))) : gb114 ≠ g)); clear HI0; clear HK; clear HB; have HI0 := n0_; have HK := n1_; have HB := n2_; have BK114 := n3_; have GW114 := n4_; have GE114 := n5_; have NB0_114 := n6_; have NB114_0 := n7_; clear n0_ n1_ n2_ n3_ n4_ n5_ n6_ n7_; clear hb hbox hg))
  (try simp only [Act.put, List.setIfInBounds_toArray, List.set_cons_zero, List.set_cons_succ])
  go_cut [13] (fun v13 wc => ∃ (kq : Nat) (x13_2 : Bool) (x1001_2 : Int), v13 = .bool x13_2 ∧ Aside0 (spec_l1Some.j0 kq a1 x13_2 s0_0 x1001_2 = some (r1, r2, r3, r4, r5, r6)) ∧ Aside0 (kq ≤ k) ∧ Aside0 (wc.heap[gb114]? = some (.cells #[.int .i64 0, .string (⟨#[]⟩ : ByteArray), .int .i64 0, (.slice none 0 0), (.slice none 0 0)] 31 (0, 0))) ∧ Aside0 (IsS104 w0 wc g s0_0 x1001_2) ∧ Aside0 (KeepBut w wc g none) ∧ Aside0 (Below w0.heap.size w0 wc))
  case first =>
    have H := HC3.out
    clear HC3
    by_cases c5 : a1 = 0
    · rw [if_pos c5] at H
      have c5b0 : (a1 == 0) = true := beq_iff_eq.mpr c5
      have c5b1 : (a1 != 0) = false := bne_eq_false_iff_eq.mpr c5
      clear c5
      (first | rw [c5b0] | (simp only [i64_w, i32_w]; rw [c5b0]) | skip)
      have H' := Aside0.mk H
      clear H
      go_wp2
      go_meet
      case rel => exact ⟨_, (true), (s0_1), (by first | rfl | (simp; done) | (simp [*]; done)), H', ⟨by first | omega | exact Nat.le_refl _⟩, ⟨by (with_reducible repeat (first | refine blk_drewN ?_ _ | refine blk_drew ?_ | refine blk_alloc ?_ _)); exact BK114.out⟩, ⟨by repeat (first | (with_reducible first | exact HI0.out | apply IsS104.alloc | apply IsS104.drewN | apply IsS104.drew | apply IsS104.set_1 | refine IsS104.far ?_ NB0_114.out _) | exact HI0.out)⟩, ⟨by repeat (first | (with_reducible first | exact HK.out | apply KeepBut.set_ | apply keep_drewN | apply keep_drew | apply keep_alloc | refine keep_far ?_ GW114.out _) | exact HK.out)⟩, ⟨by repeat (first | (with_reducible first | exact HB.out | apply below_alloc | apply pw_below_drewN | apply below_drew1 | refine below_set ?_ (IsS104.ge HI0.out) | refine below_set ?_ GE114.out) | exact HB.out)⟩⟩
    · rw [if_neg c5] at H
      have c5b0 : (a1 == 0) = false := beq_eq_false_iff_ne.mpr c5
      have c5b1 : (a1 != 0) = true := bne_iff_ne.mpr c5
      (first | rw [c5b0] | (simp only [i64_w, i32_w]; rw [c5b0]) | skip)
      replace H := Option.bind_eq_some_iff.mp H
      obtain ⟨⟨t115, t116⟩, A60, H⟩ := H
      replace H : (spec_l1Some.j0 k a1 (t115 == 0) s0_0 t116) = some (r1, r2, r3, r4, r5, r6) := H
      have A6 := Aside0.mk A60
      clear A60
      have H' := Aside0.mk H
      clear H
      go_wp2_with (first | (go_at_call 79; (with_reducible refine (spec_l15Rd_pick.calls k g s0_0 s0_1 3 t115 t116 w0 _ ?side1 ?side2 A6.out).mono ?_); (case side1 => repeat (first | (with_reducible first | exact HI0.out | apply IsS104.alloc | apply IsS104.drewN | apply IsS104.drew | apply IsS104.set_1 | refine IsS104.far ?_ NB0_114.out _) | exact HI0.out)); (case side2 => repeat (first | (with_reducible first | exact HB.out | apply below_alloc | apply pw_below_drewN | apply below_drew1 | refine below_set ?_ (IsS104.ge HI0.out) | refine below_set ?_ GE114.out) | exact HB.out)); rintro e w7 ⟨rfl, hi, hb, hk⟩; have n0_ := Aside0.mk (KeepBut.blk hk (g' := gb114) (o := .cells #[.int .i64 0, .string (⟨#[]⟩ : ByteArray), .int .i64 0, .slice none 0 0, .slice none 0 0] 31 (0, 0)) (by (with_reducible repeat (first | refine blk_drewN ?_ _ | refine blk_drew ?_ | refine blk_alloc ?_ _)); exact BK114.out) NB114_0.out (by simp)); have n1_ := Aside0.mk (KeepBut.trans (by repeat (first | (with_reducible first | exact HK.out | apply KeepBut.set_ | apply keep_drewN | apply keep_drew | apply keep_alloc | refine keep_far ?_ GW114.out _) | exact HK.out)) hk (.inl rfl)); have n2_ := Aside0.mk (hb); have n3_ := Aside0.mk (hi); clear BK114; clear HK; clear HB; clear HI0; have BK114 := n0_; have HK := n1_; have HB := n2_; have HI0 := n3_; clear n0_ n1_ n2_ n3_; (try clear hb); (try clear hb2); (try clear hk); (try clear hi)))
      go_meet
      case rel => exact ⟨_, ((t115 == 0)), (t116), (by first | rfl | (simp; done) | (simp [*]; done)), H', ⟨by first | omega | exact Nat.le_refl _⟩, ⟨by (with_reducible repeat (first | refine blk_drewN ?_ _ | refine blk_drew ?_ | refine blk_alloc ?_ _)); exact BK114.out⟩, ⟨by repeat (first | (with_reducible first | exact HI0.out | apply IsS104.alloc | apply IsS104.drewN | apply IsS104.drew | apply IsS104.set_1 | refine IsS104.far ?_ NB0_114.out _) | exact HI0.out)⟩, ⟨by repeat (first | (with_reducible first | exact HK.out | apply KeepBut.set_ | apply keep_drewN | apply keep_drew | apply keep_alloc | refine keep_far ?_ GW114.out _) | exact HK.out)⟩, ⟨by repeat (first | (with_reducible first | exact HB.out | apply below_alloc | apply pw_below_drewN | apply below_drew1 | refine below_set ?_ (IsS104.ge HI0.out) | refine below_set ?_ GE114.out) | exact HB.out)⟩⟩
  case rest =>
    clear HC3
    try clear c1
    try clear p2
    try clear c5
    try clear c5b0
    try clear c5b1
    obtain ⟨kq, x13_2, x1001_2, rfl, HA, HJ2, BK114, HI0, HK, HB⟩ := hcut
    cases kq with
    | zero => exact absurd HA.out (by simp [spec_l1Some.j0])
    | succ kj2 =>
      have H := HA.out
      clear HA
      simp only [spec_l1Some.j0] at H
      by_cases c8 : x13_2 = true
      · subst c8
        have H1 : ((spec_l15Rd_pick.f kj2 s0_0 x1001_2 4).bind fun bt117 => (if bt117.1 = 0 then ((spec_l15Rd_num.f kj2 s0_0 bt117.2 (([0, 1, 2, 7, 42, 999] : List Int))).bind fun bt122 => (some (2, (⟨#[]⟩ : ByteArray), bt122.1, ([] : List Int), ([] : List (S31)), bt122.2))) else ((spec_l15Rd_of.f kj2 s0_0 bt117.2 (([(⟨#[97]⟩ : ByteArray), (⟨#[98]⟩ : ByteArray), (⟨#[120]⟩ : ByteArray), (⟨#[121]⟩ : ByteArray), (⟨#[102]⟩ : ByteArray), (⟨#[105, 102]⟩ : ByteArray), (⟨#[108, 101, 116]⟩ : ByteArray), (⟨#[43]⟩ : ByteArray)] : List ByteArray))).bind fun bt127 => ((spec_l1Name.f bt127.1).bind fun bt129 => (some (bt129.1, bt129.2.1, bt129.2.2.1, bt129.2.2.2.1, bt129.2.2.2.2, bt127.2)))))) = some (r1, r2, r3, r4, r5, r6) := by rw [if_pos rfl] at H; exact H
        clear H
        have H := H1
        clear H1
        replace H := Option.bind_eq_some_iff.mp H
        obtain ⟨⟨t117, t118⟩, A90, H⟩ := H
        replace H : (if t117 = 0 then ((spec_l15Rd_num.f kj2 s0_0 t118 (([0, 1, 2, 7, 42, 999] : List Int))).bind fun bt122 => (some (2, (⟨#[]⟩ : ByteArray), bt122.1, ([] : List Int), ([] : List (S31)), bt122.2))) else ((spec_l15Rd_of.f kj2 s0_0 t118 (([(⟨#[97]⟩ : ByteArray), (⟨#[98]⟩ : ByteArray), (⟨#[120]⟩ : ByteArray), (⟨#[121]⟩ : ByteArray), (⟨#[102]⟩ : ByteArray), (⟨#[105, 102]⟩ : ByteArray), (⟨#[108, 101, 116]⟩ : ByteArray), (⟨#[43]⟩ : ByteArray)] : List ByteArray))).bind fun bt127 => ((spec_l1Name.f bt127.1).bind fun bt129 => (some (bt129.1, bt129.2.1, bt129.2.2.1, bt129.2.2.2.1, bt129.2.2.2.2, bt127.2))))) = some (r1, r2, r3, r4, r5, r6) := H
        have A9 := Aside0.mk A90
        clear A90
        by_cases c10 : t117 = 0
        · rw [if_pos c10] at H
          have c10b0 : (t117 == 0) = true := beq_iff_eq.mpr c10
          have c10b1 : (t117 != 0) = false := bne_eq_false_iff_eq.mpr c10
          clear c10
          obtain ⟨y119, hy119⟩ : ∃ y_ : List Int, y_ = (([0, 1, 2, 7, 42, 999] : List Int)) := ⟨_, rfl⟩
          replace H : ((spec_l15Rd_num.f kj2 s0_0 t118 y119).bind fun bt122 => (some (2, (⟨#[]⟩ : ByteArray), bt122.1, ([] : List Int), ([] : List (S31)), bt122.2))) = some (r1, r2, r3, r4, r5, r6) := by first | (rw [hy119]; with_reducible exact H) | (have H2_ := (Option.bind_some _ _).symm.trans H; rw [hy119]; with_reducible exact H2_) | (have H2_ := (Option.bind_some _ _).symm.trans H; with_reducible exact H2_) | with_reducible exact H | (rw [hy119]; exact H) | exact H
          have Ny119 := Aside0.mk hy119
          clear hy119
          replace H := Option.bind_eq_some_iff.mp H
          obtain ⟨⟨t122, t123⟩, A110, H⟩ := H
          replace H : (some (2, (⟨#[]⟩ : ByteArray), t122, ([] : List Int), ([] : List (S31)), t123)) = some (r1, r2, r3, r4, r5, r6) := H
          have A11 := Aside0.mk A110
          clear A110
          simp only [Option.some.injEq, Prod.mk.injEq] at H
          obtain ⟨rfl, rfl, rfl, rfl, rfl, rfl⟩ := H
          go_wp2_with (first | ((with_reducible refine gate_callee (f := 79) rfl ?_); refine goesL_ (some 15) rfl rfl Try.func79 (by kernel_rfl) rfl #[.pointer (some ⟨g, 0, none⟩), .int .i64 4] rfl (by (try simp only [List.map_toArray, List.map_cons, List.map_nil]); first | done | rfl | (simp only [List.length_drop, List.length_take]; rfl)) ?_; (with_reducible refine (spec_l15Rd_pick.calls kj2 g s0_0 x1001_2 4 t117 t118 w0 _ ?side1 ?side2 A9.out).mono ?_); (case side1 => repeat (first | (with_reducible first | exact HI0.out | apply IsS104.alloc | apply IsS104.drewN | apply IsS104.drew | apply IsS104.set_1 | refine IsS104.far ?_ NB0_114.out _) | exact HI0.out)); (case side2 => repeat (first | (with_reducible first | exact HB.out | apply below_alloc | apply pw_below_drewN | apply below_drew1 | refine below_set ?_ (IsS104.ge HI0.out) | refine below_set ?_ GE114.out) | exact HB.out)); rintro e w12 ⟨rfl, hi, hb, hk⟩; refine ⟨_, rfl, ?_⟩; have n0_ := Aside0.mk (KeepBut.blk hk (g' := gb114) (o := .cells #[.int .i64 0, .string (⟨#[]⟩ : ByteArray), .int .i64 0, .slice none 0 0, .slice none 0 0] 31 (0, 0)) (by (with_reducible repeat (first | refine blk_drewN ?_ _ | refine blk_drew ?_ | refine blk_alloc ?_ _)); exact BK114.out) NB114_0.out (by simp)); have n1_ := Aside0.mk (KeepBut.trans (by repeat (first | (with_reducible first | exact HK.out | apply KeepBut.set_ | apply keep_drewN | apply keep_drew | apply keep_alloc | refine keep_far ?_ GW114.out _) | exact HK.out)) hk (.inl rfl)); have n2_ := Aside0.mk (hb); have n3_ := Aside0.mk (hi); clear BK114; clear HK; clear HB; clear HI0; have BK114 := n0_; have HK := n1_; have HB := n2_; have HI0 := n3_; clear n0_ n1_ n2_ n3_; (try clear hb); (try clear hb2); (try clear hk); (try clear hi)) | ((with_reducible refine gate_dst (N := 18) rfl ?_); refine Kd.R_lit (Kd.int .i64) _ 3 ?hg (N := 18) ?hd (xs := ([0, 1, 2, 7, 42, 999] : List Int)) (inner := [.int .i64 0, .int .i64 1, .int .i64 2, .int .i64 7, .int .i64 42, .int .i64 999]) (ok := fun _ => True) (okp := fun _ => True) ?hr ?hp (fun _ hk => hk) trivial (Below.refl _ _) (Nat.le_refl _) (by simp) ?_; (case hd => rfl); (case hg => rfl); (case hr => first | (go_simp; done) | (go_simp; rfl)); (case hp => exact (Reps.one (show Kd.M (Kd.int .i64) _ _ _ 0 [.int .i64 0] from rfl) (Reps.one (show Kd.M (Kd.int .i64) _ _ _ 1 [.int .i64 1] from rfl) (Reps.one (show Kd.M (Kd.int .i64) _ _ _ 2 [.int .i64 2] from rfl) (Reps.one (show Kd.M (Kd.int .i64) _ _ _ 7 [.int .i64 7] from rfl) (Reps.one (show Kd.M (Kd.int .i64) _ _ _ 42 [.int .i64 42] from rfl) (Reps.one (show Kd.M (Kd.int .i64) _ _ _ 999 [.int .i64 999] from rfl) (Reps.none _ _)))))))); intro v120 w13 ho14 hb hg_ hnew_; clear hg_ hnew_; (first | rw [← Ny119.out] at ho14 | (simp only [Int.reduceToNat] at ho14; rw [← Ny119.out] at ho14)); have n0_ := Aside0.mk (Kd.R_lower ho14 (keep_size (w := w) (g := g) (row := none) (by repeat (first | (with_reducible first | exact HK.out | apply KeepBut.set_ | apply keep_drewN | apply keep_drew | apply keep_alloc | refine keep_far ?_ GW114.out _) | exact HK.out)))); have n1_ := Aside0.mk (blk_below (g := gb114) (o := .cells #[.int .i64 0, .string (⟨#[]⟩ : ByteArray), .int .i64 0, .slice none 0 0, .slice none 0 0] 31 (0, 0)) (by (with_reducible repeat (first | refine blk_drewN ?_ _ | refine blk_drew ?_ | refine blk_alloc ?_ _)); exact BK114.out) hb); have n2_ := Aside0.mk (IsS104.below (by repeat (first | (with_reducible first | exact HI0.out | apply IsS104.alloc | apply IsS104.drewN | apply IsS104.drew | apply IsS104.set_1 | refine IsS104.far ?_ NB0_114.out _) | exact HI0.out)) hb); have n3_ := Aside0.mk (KeepBut.trans (by repeat (first | (with_reducible first | exact HK.out | apply KeepBut.set_ | apply keep_drewN | apply keep_drew | apply keep_alloc | refine keep_far ?_ GW114.out _) | exact HK.out)) (KeepBut.of_below hb g none) (.inl rfl)); have n4_ := Aside0.mk (below_step (by repeat (first | (with_reducible first | exact HB.out | apply below_alloc | apply pw_below_drewN | apply below_drew1 | refine below_set ?_ (IsS104.ge HI0.out) | refine below_set ?_ GE114.out) | exact HB.out)) hb); clear BK114; clear HI0; clear HK; clear HB; have HO121 := n0_; have BK114 := n1_; have HI0 := n2_; have HK := n3_; have HB := n4_; clear n0_ n1_ n2_ n3_ n4_; clear hb ho14; obtain ⟨Ao15, co15, eo15⟩ := Kd.R_slice HO121.out; subst eo15) | ((with_reducible refine gate_callee (f := 126) rfl ?_); refine goesL_ (some 19) rfl rfl Try.func126 (by kernel_rfl) rfl #[.pointer (some ⟨g, 0, none⟩), .slice Ao15 y119.length co15] rfl (by (try simp only [List.map_toArray, List.map_cons, List.map_nil]); first | done | rfl | (simp only [List.length_drop, List.length_take]; rfl)) ?_; (with_reducible refine (spec_l15Rd_num.calls kj2 g s0_0 t118 _ _ y119 t122 t123 w0 _ ?side1 ?side2 ?side3 ?side4 ?side5 A11.out).mono ?_); (case side1 => repeat (first | (with_reducible first | exact HI0.out | apply IsS104.alloc | apply IsS104.drewN | apply IsS104.drew | apply IsS104.set_1 | refine IsS104.far ?_ NB0_114.out _) | exact HI0.out)); (case side2 => repeat (first | (with_reducible first | exact HB.out | apply below_alloc | apply pw_below_drewN | apply below_drew1 | refine below_set ?_ (IsS104.ge HI0.out) | refine below_set ?_ GE114.out) | exact HB.out)); (case side3 => repeat (first | exact (Kd.R_reads' HO121.out).2.2 | (with_reducible refine Kd.C_alloc ?_ _) | (with_reducible refine Kd.C_drewN ?_ _) | (with_reducible refine Kd.C_drew ?_))); (case side4 => exact (Kd.R_reads' HO121.out).2.1); (case side5 => exact far_slice (IsS104.own_ne HI0.out HO121.out (by decide))); rintro e w16 ⟨rfl, hi, hb, hk⟩; refine ⟨_, rfl, ?_⟩; have n0_ := Aside0.mk (KeepBut.blk hk (g' := gb114) (o := .cells #[.int .i64 0, .string (⟨#[]⟩ : ByteArray), .int .i64 0, .slice none 0 0, .slice none 0 0] 31 (0, 0)) (by (with_reducible repeat (first | refine blk_drewN ?_ _ | refine blk_drew ?_ | refine blk_alloc ?_ _)); exact BK114.out) NB114_0.out (by simp)); have n1_ := Aside0.mk (Kd.R_mono (Kd.R_keep (IsS104.apart (show IsS104 w0 _ g s0_0 t118 from by repeat (first | (with_reducible first | exact HI0.out | apply IsS104.alloc | apply IsS104.drewN | apply IsS104.drew | apply IsS104.set_1 | refine IsS104.far ?_ NB0_114.out _) | exact HI0.out)) (by (with_reducible repeat (first | apply Kd.R_alloc | apply Kd.R_drewN | apply Kd.R_drew)); exact HO121.out) (by decide)) hk (fun _ h => h.2)) (fun _ h => h.1)); have n2_ := Aside0.mk (KeepBut.trans (by repeat (first | (with_reducible first | exact HK.out | apply KeepBut.set_ | apply keep_drewN | apply keep_drew | apply keep_alloc | refine keep_far ?_ GW114.out _) | exact HK.out)) hk (.inl rfl)); have n3_ := Aside0.mk (hb); have n4_ := Aside0.mk (hi); clear BK114; clear HO121; clear HK; clear HB; clear HI0; have BK114 := n0_; have HO121 := n1_; have HK := n2_; have HB := n3_; have HI0 := n4_; clear n0_ n1_ n2_ n3_ n4_; (try clear hb); (try clear hb2); (try clear hk); (try clear hi); have hnb17 := NB114_0.out; have hnc17 := NB0_114.out; have hcz18_0 : w16.cell? ⟨gb114, 0, none⟩ = some (.int .i64 0) := (blk_cell BK114.out 0).trans rfl; have hcz18_1 : w16.cell? ⟨gb114, 1, none⟩ = some (.string (⟨#[]⟩ : ByteArray)) := (blk_cell BK114.out 1).trans rfl; have hcz18_2 : w16.cell? ⟨gb114, 2, none⟩ = some (.int .i64 0) := (blk_cell BK114.out 2).trans rfl; have hcz18_3 : w16.cell? ⟨gb114, 3, none⟩ = some (.slice none 0 0) := (blk_cell BK114.out 3).trans rfl; have hcz18_4 : w16.cell? ⟨gb114, 4, none⟩ = some (.slice none 0 0) := (blk_cell BK114.out 4).trans rfl; have hfz18_0 := blk_frozen BK114.out 0; have hfz18_1 := blk_frozen BK114.out 1; have hfz18_2 := blk_frozen BK114.out 2; have hfz18_3 := blk_frozen BK114.out 3; have hfz18_4 := blk_frozen BK114.out 4))
          refine bodyPost_ret (results_cell_row rfl _ _ gb114 31 #[.int .i64 2, .string (⟨#[]⟩ : ByteArray), .int .i64 t122, .slice none 0 0, .slice none 0 0] (0, 0) _ rfl (by (with_reducible repeat (first | refine blk_drewN ?_ _ | refine blk_drew ?_ | refine blk_alloc ?_ _)); refine blk_put (cs := #[.int .i64 2, .string (⟨#[]⟩ : ByteArray), .int .i64 t122, .slice none 0 0, .slice none 0 0]) ?_ 4 _ rfl; (with_reducible repeat (first | refine blk_drewN ?_ _ | refine blk_drew ?_ | refine blk_alloc ?_ _)); refine blk_put (cs := #[.int .i64 2, .string (⟨#[]⟩ : ByteArray), .int .i64 t122, .slice none 0 0, .slice none 0 0]) ?_ 3 _ rfl; (with_reducible repeat (first | refine blk_drewN ?_ _ | refine blk_drew ?_ | refine blk_alloc ?_ _)); refine blk_put (cs := #[.int .i64 2, .string (⟨#[]⟩ : ByteArray), .int .i64 0, .slice none 0 0, .slice none 0 0]) ?_ 2 _ rfl; (with_reducible repeat (first | refine blk_drewN ?_ _ | refine blk_drew ?_ | refine blk_alloc ?_ _)); refine blk_put (cs := #[.int .i64 2, .string (⟨#[]⟩ : ByteArray), .int .i64 0, .slice none 0 0, .slice none 0 0]) ?_ 1 _ rfl; (with_reducible repeat (first | refine blk_drewN ?_ _ | refine blk_drew ?_ | refine blk_alloc ?_ _)); refine blk_put (cs := #[.int .i64 0, .string (⟨#[]⟩ : ByteArray), .int .i64 0, .slice none 0 0, .slice none 0 0]) ?_ 0 _ rfl; (with_reducible repeat (first | refine blk_drewN ?_ _ | refine blk_drew ?_ | refine blk_alloc ?_ _)); exact BK114.out) Try.underlying31 rfl (by kernel_rfl)) rfl ?_
          exact ⟨_, _, by first | rfl | (simp [errW_none, errW_some] <;> rfl) | (simp [*, errW_none, errW_some] <;> rfl), by first | exact Kd.R_nil _ _ _ _ _ | exact Kd.N_nil _ _ _ _ _ | exact Kd.V_nil _ _ _ _ _ | exact Kd.Q_nil _ _ _ _ _ | exact Kd.S_nil _ _ _ _ _, by first | exact Kd.R_nil _ _ _ _ _ | exact Kd.N_nil _ _ _ _ _ | exact Kd.V_nil _ _ _ _ _ | exact Kd.Q_nil _ _ _ _ _ | exact Kd.S_nil _ _ _ _ _, by repeat (first | (with_reducible first | exact HI0.out | apply IsS104.alloc | apply IsS104.drewN | apply IsS104.drew | apply IsS104.set_1 | refine IsS104.far ?_ NB0_114.out _) | exact HI0.out), by repeat (first | (with_reducible first | exact HB.out | apply below_alloc | apply pw_below_drewN | apply below_drew1 | refine below_set ?_ (IsS104.ge HI0.out) | refine below_set ?_ GE114.out) | exact HB.out), by repeat (first | (with_reducible first | exact HK.out | apply KeepBut.set_ | apply keep_drewN | apply keep_drew | apply keep_alloc | refine keep_far ?_ GW114.out _) | exact HK.out)⟩
        · rw [if_neg c10] at H
          have c10b0 : (t117 == 0) = false := beq_eq_false_iff_ne.mpr c10
          have c10b1 : (t117 != 0) = true := bne_iff_ne.mpr c10
          obtain ⟨y124, hy124⟩ : ∃ y_ : List ByteArray, y_ = (([(⟨#[97]⟩ : ByteArray), (⟨#[98]⟩ : ByteArray), (⟨#[120]⟩ : ByteArray), (⟨#[121]⟩ : ByteArray), (⟨#[102]⟩ : ByteArray), (⟨#[105, 102]⟩ : ByteArray), (⟨#[108, 101, 116]⟩ : ByteArray), (⟨#[43]⟩ : ByteArray)] : List ByteArray)) := ⟨_, rfl⟩
          replace H : ((spec_l15Rd_of.f kj2 s0_0 t118 y124).bind fun bt127 => ((spec_l1Name.f bt127.1).bind fun bt129 => (some (bt129.1, bt129.2.1, bt129.2.2.1, bt129.2.2.2.1, bt129.2.2.2.2, bt127.2)))) = some (r1, r2, r3, r4, r5, r6) := by first | (rw [hy124]; with_reducible exact H) | (have H2_ := (Option.bind_some _ _).symm.trans H; rw [hy124]; with_reducible exact H2_) | (have H2_ := (Option.bind_some _ _).symm.trans H; with_reducible exact H2_) | with_reducible exact H | (rw [hy124]; exact H) | exact H
          have Ny124 := Aside0.mk hy124
          clear hy124
          replace H := Option.bind_eq_some_iff.mp H
          obtain ⟨⟨t127, t128⟩, A190, H⟩ := H
          replace H : ((spec_l1Name.f t127).bind fun bt129 => (some (bt129.1, bt129.2.1, bt129.2.2.1, bt129.2.2.2.1, bt129.2.2.2.2, t128))) = some (r1, r2, r3, r4, r5, r6) := H
          have A19 := Aside0.mk A190
          clear A190
          replace H := Option.bind_eq_some_iff.mp H
          obtain ⟨⟨t129, t130, t131, t132, t135⟩, A200, H⟩ := H
          replace H : (some (t129, t130, t131, t132, t135, t128)) = some (r1, r2, r3, r4, r5, r6) := H
          have A20 := Aside0.mk A200
          clear A200
          simp only [Option.some.injEq, Prod.mk.injEq] at H
          obtain ⟨rfl, rfl, rfl, rfl, rfl, rfl⟩ := H
          go_wp2_with (first | ((with_reducible refine gate_callee (f := 79) rfl ?_); refine goesL_ (some 15) rfl rfl Try.func79 (by kernel_rfl) rfl #[.pointer (some ⟨g, 0, none⟩), .int .i64 4] rfl (by (try simp only [List.map_toArray, List.map_cons, List.map_nil]); first | done | rfl | (simp only [List.length_drop, List.length_take]; rfl)) ?_; (with_reducible refine (spec_l15Rd_pick.calls kj2 g s0_0 x1001_2 4 t117 t118 w0 _ ?side1 ?side2 A9.out).mono ?_); (case side1 => repeat (first | (with_reducible first | exact HI0.out | apply IsS104.alloc | apply IsS104.drewN | apply IsS104.drew | apply IsS104.set_1 | refine IsS104.far ?_ NB0_114.out _) | exact HI0.out)); (case side2 => repeat (first | (with_reducible first | exact HB.out | apply below_alloc | apply pw_below_drewN | apply below_drew1 | refine below_set ?_ (IsS104.ge HI0.out) | refine below_set ?_ GE114.out) | exact HB.out)); rintro e w21 ⟨rfl, hi, hb, hk⟩; refine ⟨_, rfl, ?_⟩; have n0_ := Aside0.mk (KeepBut.blk hk (g' := gb114) (o := .cells #[.int .i64 0, .string (⟨#[]⟩ : ByteArray), .int .i64 0, .slice none 0 0, .slice none 0 0] 31 (0, 0)) (by (with_reducible repeat (first | refine blk_drewN ?_ _ | refine blk_drew ?_ | refine blk_alloc ?_ _)); exact BK114.out) NB114_0.out (by simp)); have n1_ := Aside0.mk (KeepBut.trans (by repeat (first | (with_reducible first | exact HK.out | apply KeepBut.set_ | apply keep_drewN | apply keep_drew | apply keep_alloc | refine keep_far ?_ GW114.out _) | exact HK.out)) hk (.inl rfl)); have n2_ := Aside0.mk (hb); have n3_ := Aside0.mk (hi); clear BK114; clear HK; clear HB; clear HI0; have BK114 := n0_; have HK := n1_; have HB := n2_; have HI0 := n3_; clear n0_ n1_ n2_ n3_; (try clear hb); (try clear hb2); (try clear hk); (try clear hi)) | ((with_reducible refine gate_dst (N := 22) rfl ?_); refine Kd.R_lit Kd.string _ 9 ?hg (N := 22) ?hd (xs := ([(⟨#[97]⟩ : ByteArray), (⟨#[98]⟩ : ByteArray), (⟨#[120]⟩ : ByteArray), (⟨#[121]⟩ : ByteArray), (⟨#[102]⟩ : ByteArray), (⟨#[105, 102]⟩ : ByteArray), (⟨#[108, 101, 116]⟩ : ByteArray), (⟨#[43]⟩ : ByteArray)] : List ByteArray)) (inner := [.string (⟨#[97]⟩ : ByteArray), .string (⟨#[98]⟩ : ByteArray), .string (⟨#[120]⟩ : ByteArray), .string (⟨#[121]⟩ : ByteArray), .string (⟨#[102]⟩ : ByteArray), .string (⟨#[105, 102]⟩ : ByteArray), .string (⟨#[108, 101, 116]⟩ : ByteArray), .string (⟨#[43]⟩ : ByteArray)]) (ok := fun _ => True) (okp := fun _ => True) ?hr ?hp (fun _ hk => hk) trivial (Below.refl _ _) (Nat.le_refl _) (by simp) ?_; (case hd => rfl); (case hg => rfl); (case hr => first | (go_simp; done) | (go_simp; rfl)); (case hp => exact (Reps.one (show Kd.M Kd.string _ _ _ (⟨#[97]⟩ : ByteArray) [.string (⟨#[97]⟩ : ByteArray)] from rfl) (Reps.one (show Kd.M Kd.string _ _ _ (⟨#[98]⟩ : ByteArray) [.string (⟨#[98]⟩ : ByteArray)] from rfl) (Reps.one (show Kd.M Kd.string _ _ _ (⟨#[120]⟩ : ByteArray) [.string (⟨#[120]⟩ : ByteArray)] from rfl) (Reps.one (show Kd.M Kd.string _ _ _ (⟨#[121]⟩ : ByteArray) [.string (⟨#[121]⟩ : ByteArray)] from rfl) (Reps.one (show Kd.M Kd.string _ _ _ (⟨#[102]⟩ : ByteArray) [.string (⟨#[102]⟩ : ByteArray)] from rfl) (Reps.one (show Kd.M Kd.string _ _ _ (⟨#[105, 102]⟩ : ByteArray) [.string (⟨#[105, 102]⟩ : ByteArray)] from rfl) (Reps.one (show Kd.M Kd.string _ _ _ (⟨#[108, 101, 116]⟩ : ByteArray) [.string (⟨#[108, 101, 116]⟩ : ByteArray)] from rfl) (Reps.one (show Kd.M Kd.string _ _ _ (⟨#[43]⟩ : ByteArray) [.string (⟨#[43]⟩ : ByteArray)] from rfl) (Reps.none _ _)))))))))); intro v125 w22 ho23 hb hg_ hnew_; clear hg_ hnew_; (first | rw [← Ny124.out] at ho23 | (simp only [Int.reduceToNat] at ho23; rw [← Ny124.out] at ho23)); have n0_ := Aside0.mk (Kd.R_lower ho23 (keep_size (w := w) (g := g) (row := none) (by repeat (first | (with_reducible first | exact HK.out | apply KeepBut.set_ | apply keep_drewN | apply keep_drew | apply keep_alloc | refine keep_far ?_ GW114.out _) | exact HK.out)))); have n1_ := Aside0.mk (blk_below (g := gb114) (o := .cells #[.int .i64 0, .string (⟨#[]⟩ : ByteArray), .int .i64 0, .slice none 0 0, .slice none 0 0] 31 (0, 0)) (by (with_reducible repeat (first | refine blk_drewN ?_ _ | refine blk_drew ?_ | refine blk_alloc ?_ _)); exact BK114.out) hb); have n2_ := Aside0.mk (IsS104.below (by repeat (first | (with_reducible first | exact HI0.out | apply IsS104.alloc | apply IsS104.drewN | apply IsS104.drew | apply IsS104.set_1 | refine IsS104.far ?_ NB0_114.out _) | exact HI0.out)) hb); have n3_ := Aside0.mk (KeepBut.trans (by repeat (first | (with_reducible first | exact HK.out | apply KeepBut.set_ | apply keep_drewN | apply keep_drew | apply keep_alloc | refine keep_far ?_ GW114.out _) | exact HK.out)) (KeepBut.of_below hb g none) (.inl rfl)); have n4_ := Aside0.mk (below_step (by repeat (first | (with_reducible first | exact HB.out | apply below_alloc | apply pw_below_drewN | apply below_drew1 | refine below_set ?_ (IsS104.ge HI0.out) | refine below_set ?_ GE114.out) | exact HB.out)) hb); clear BK114; clear HI0; clear HK; clear HB; have HO126 := n0_; have BK114 := n1_; have HI0 := n2_; have HK := n3_; have HB := n4_; clear n0_ n1_ n2_ n3_ n4_; clear hb ho23; obtain ⟨Ao24, co24, eo24⟩ := Kd.R_slice HO126.out; subst eo24) | ((with_reducible refine gate_callee (f := 131) rfl ?_); refine goesL_ (some 23) rfl rfl Try.func131 (by kernel_rfl) rfl #[.pointer (some ⟨g, 0, none⟩), .slice Ao24 y124.length co24] rfl (by (try simp only [List.map_toArray, List.map_cons, List.map_nil]); first | done | rfl | (simp only [List.length_drop, List.length_take]; rfl)) ?_; (with_reducible refine (spec_l15Rd_of.calls kj2 g s0_0 t118 _ _ y124 t127 t128 w0 _ ?side1 ?side2 ?side3 ?side4 ?side5 A19.out).mono ?_); (case side1 => repeat (first | (with_reducible first | exact HI0.out | apply IsS104.alloc | apply IsS104.drewN | apply IsS104.drew | apply IsS104.set_1 | refine IsS104.far ?_ NB0_114.out _) | exact HI0.out)); (case side2 => repeat (first | (with_reducible first | exact HB.out | apply below_alloc | apply pw_below_drewN | apply below_drew1 | refine below_set ?_ (IsS104.ge HI0.out) | refine below_set ?_ GE114.out) | exact HB.out)); (case side3 => repeat (first | exact (Kd.R_reads' HO126.out).2.2 | (with_reducible refine Kd.C_alloc ?_ _) | (with_reducible refine Kd.C_drewN ?_ _) | (with_reducible refine Kd.C_drew ?_))); (case side4 => exact (Kd.R_reads' HO126.out).2.1); (case side5 => exact far_slice (IsS104.own_ne HI0.out HO126.out (by decide))); rintro e w25 ⟨rfl, hi, hb, hk⟩; refine ⟨_, rfl, ?_⟩; have n0_ := Aside0.mk (KeepBut.blk hk (g' := gb114) (o := .cells #[.int .i64 0, .string (⟨#[]⟩ : ByteArray), .int .i64 0, .slice none 0 0, .slice none 0 0] 31 (0, 0)) (by (with_reducible repeat (first | refine blk_drewN ?_ _ | refine blk_drew ?_ | refine blk_alloc ?_ _)); exact BK114.out) NB114_0.out (by simp)); have n1_ := Aside0.mk (Kd.R_mono (Kd.R_keep (IsS104.apart (show IsS104 w0 _ g s0_0 t118 from by repeat (first | (with_reducible first | exact HI0.out | apply IsS104.alloc | apply IsS104.drewN | apply IsS104.drew | apply IsS104.set_1 | refine IsS104.far ?_ NB0_114.out _) | exact HI0.out)) (by (with_reducible repeat (first | apply Kd.R_alloc | apply Kd.R_drewN | apply Kd.R_drew)); exact HO126.out) (by decide)) hk (fun _ h => h.2)) (fun _ h => h.1)); have n2_ := Aside0.mk (KeepBut.trans (by repeat (first | (with_reducible first | exact HK.out | apply KeepBut.set_ | apply keep_drewN | apply keep_drew | apply keep_alloc | refine keep_far ?_ GW114.out _) | exact HK.out)) hk (.inl rfl)); have n3_ := Aside0.mk (hb); have n4_ := Aside0.mk (hi); clear BK114; clear HO126; clear HK; clear HB; clear HI0; have BK114 := n0_; have HO126 := n1_; have HK := n2_; have HB := n3_; have HI0 := n4_; clear n0_ n1_ n2_ n3_ n4_; (try clear hb); (try clear hb2); (try clear hk); (try clear hi)) | ((with_reducible refine gate_callee (f := 114) rfl ?_); refine goesL_ (some 24) rfl rfl Try.func114 (by kernel_rfl) rfl #[.string t127] rfl (by (try simp only [List.map_toArray, List.map_cons, List.map_nil]); first | done | rfl | (simp only [List.length_drop, List.length_take]; rfl)) ?_; (with_reducible refine (spec_l1Name.calls t127 t129 t130 t131 t132 t135 _ A20.out).mono ?_); rintro e w26 ⟨v133, v136, rfl, ho0, ho1, hb⟩; refine ⟨_, rfl, ?_⟩; have n0_ := Aside0.mk (Kd.R_below (by (with_reducible repeat (first | apply Kd.R_alloc | apply Kd.R_drewN | apply Kd.R_drew)); exact HO126.out) hb); have n1_ := Aside0.mk (Kd.R_lower ho0 (keep_size (w := w) (g := g) (row := none) (by repeat (first | (with_reducible first | exact HK.out | apply KeepBut.set_ | apply keep_drewN | apply keep_drew | apply keep_alloc | refine keep_far ?_ GW114.out _) | exact HK.out)))); have n2_ := Aside0.mk (Kd.R_lower (Kd.R_newB ho1 (g := gb114) (o := .cells #[.int .i64 0, .string (⟨#[]⟩ : ByteArray), .int .i64 0, .slice none 0 0, .slice none 0 0] 31 (0, 0)) (by (with_reducible repeat (first | refine blk_drewN ?_ _ | refine blk_drew ?_ | refine blk_alloc ?_ _)); exact BK114.out)) (keep_size (w := w) (g := g) (row := none) (by repeat (first | (with_reducible first | exact HK.out | apply KeepBut.set_ | apply keep_drewN | apply keep_drew | apply keep_alloc | refine keep_far ?_ GW114.out _) | exact HK.out)))); have n3_ := Aside0.mk (blk_below (g := gb114) (o := .cells #[.int .i64 0, .string (⟨#[]⟩ : ByteArray), .int .i64 0, .slice none 0 0, .slice none 0 0] 31 (0, 0)) (by (with_reducible repeat (first | refine blk_drewN ?_ _ | refine blk_drew ?_ | refine blk_alloc ?_ _)); exact BK114.out) hb); have n4_ := Aside0.mk (IsS104.below (by repeat (first | (with_reducible first | exact HI0.out | apply IsS104.alloc | apply IsS104.drewN | apply IsS104.drew | apply IsS104.set_1 | refine IsS104.far ?_ NB0_114.out _) | exact HI0.out)) hb); have n5_ := Aside0.mk (KeepBut.trans (by repeat (first | (with_reducible first | exact HK.out | apply KeepBut.set_ | apply keep_drewN | apply keep_drew | apply keep_alloc | refine keep_far ?_ GW114.out _) | exact HK.out)) (KeepBut.of_below hb g none) (.inl rfl)); have n6_ := Aside0.mk (below_step (by repeat (first | (with_reducible first | exact HB.out | apply below_alloc | apply pw_below_drewN | apply below_drew1 | refine below_set ?_ (IsS104.ge HI0.out) | refine below_set ?_ GE114.out) | exact HB.out)) hb); clear HO126; clear BK114; clear HI0; clear HK; clear HB; have HO126 := n0_; have HO134 := n1_; have HO137 := n2_; have BK114 := n3_; have HI0 := n4_; have HK := n5_; have HB := n6_; clear n0_ n1_ n2_ n3_ n4_ n5_ n6_; (try clear hb); (try clear hb2); (try clear hk); (try clear hi); (try clear ho0); (try clear ho1); have hnb27 := NB114_0.out; have hnc27 := NB0_114.out; have hcz28_0 : w26.cell? ⟨gb114, 0, none⟩ = some (.int .i64 0) := (blk_cell BK114.out 0).trans rfl; have hcz28_1 : w26.cell? ⟨gb114, 1, none⟩ = some (.string (⟨#[]⟩ : ByteArray)) := (blk_cell BK114.out 1).trans rfl; have hcz28_2 : w26.cell? ⟨gb114, 2, none⟩ = some (.int .i64 0) := (blk_cell BK114.out 2).trans rfl; have hcz28_3 : w26.cell? ⟨gb114, 3, none⟩ = some (.slice none 0 0) := (blk_cell BK114.out 3).trans rfl; have hcz28_4 : w26.cell? ⟨gb114, 4, none⟩ = some (.slice none 0 0) := (blk_cell BK114.out 4).trans rfl; have hfz28_0 := blk_frozen BK114.out 0; have hfz28_1 := blk_frozen BK114.out 1; have hfz28_2 := blk_frozen BK114.out 2; have hfz28_3 := blk_frozen BK114.out 3; have hfz28_4 := blk_frozen BK114.out 4; obtain ⟨Ao29, co29, eo29⟩ := Kd.R_slice HO134.out; subst eo29; obtain ⟨Ao30, co30, eo30⟩ := Kd.R_slice HO137.out; subst eo30))
          refine bodyPost_ret (results_cell_row rfl _ _ gb114 31 #[.int .i64 t129, .string t130, .int .i64 t131, .slice Ao29 t132.length co29, .slice Ao30 t135.length co30] (0, 0) _ rfl (by (with_reducible repeat (first | refine blk_drewN ?_ _ | refine blk_drew ?_ | refine blk_alloc ?_ _)); refine blk_put (cs := #[.int .i64 t129, .string t130, .int .i64 t131, .slice Ao29 t132.length co29, .slice none 0 0]) ?_ 4 _ rfl; (with_reducible repeat (first | refine blk_drewN ?_ _ | refine blk_drew ?_ | refine blk_alloc ?_ _)); refine blk_put (cs := #[.int .i64 t129, .string t130, .int .i64 t131, .slice none 0 0, .slice none 0 0]) ?_ 3 _ rfl; (with_reducible repeat (first | refine blk_drewN ?_ _ | refine blk_drew ?_ | refine blk_alloc ?_ _)); refine blk_put (cs := #[.int .i64 t129, .string t130, .int .i64 0, .slice none 0 0, .slice none 0 0]) ?_ 2 _ rfl; (with_reducible repeat (first | refine blk_drewN ?_ _ | refine blk_drew ?_ | refine blk_alloc ?_ _)); refine blk_put (cs := #[.int .i64 t129, .string (⟨#[]⟩ : ByteArray), .int .i64 0, .slice none 0 0, .slice none 0 0]) ?_ 1 _ rfl; (with_reducible repeat (first | refine blk_drewN ?_ _ | refine blk_drew ?_ | refine blk_alloc ?_ _)); refine blk_put (cs := #[.int .i64 0, .string (⟨#[]⟩ : ByteArray), .int .i64 0, .slice none 0 0, .slice none 0 0]) ?_ 0 _ rfl; (with_reducible repeat (first | refine blk_drewN ?_ _ | refine blk_drew ?_ | refine blk_alloc ?_ _)); exact BK114.out) Try.underlying31 rfl (by kernel_rfl)) rfl ?_
          exact ⟨_, _, by first | rfl | (simp [errW_none, errW_some] <;> rfl) | (simp [*, errW_none, errW_some] <;> rfl), by (with_reducible repeat (first | apply Kd.R_alloc | apply Kd.R_drewN | apply Kd.R_drew)); exact Kd.R_mono (Kd.R_far (p := ⟨gb114, 4, none⟩) (Kd.R_far (p := ⟨gb114, 3, none⟩) (Kd.R_far (p := ⟨gb114, 2, none⟩) (Kd.R_far (p := ⟨gb114, 1, none⟩) (Kd.R_far (p := ⟨gb114, 0, none⟩) (Kd.R_types HO134.out BK114.out (by decide)) (fun _ hk => hk.2) (.int .i64 t129)) (fun _ hk => hk.2) (.string t130)) (fun _ hk => hk.2) (.int .i64 t131)) (fun _ hk => hk.2) (.slice Ao29 t132.length co29)) (fun _ hk => hk.2) (.slice Ao30 t135.length co30)) (fun _ hk => trivial), by (with_reducible repeat (first | apply Kd.R_alloc | apply Kd.R_drewN | apply Kd.R_drew)); exact Kd.R_mono (Kd.R_far (p := ⟨gb114, 4, none⟩) (Kd.R_far (p := ⟨gb114, 3, none⟩) (Kd.R_far (p := ⟨gb114, 2, none⟩) (Kd.R_far (p := ⟨gb114, 1, none⟩) (Kd.R_far (p := ⟨gb114, 0, none⟩) (Kd.R_mono HO137.out (fun k_ hk => (⟨hk, hk.2⟩ : _ ∧ k_ ≠ gb114))) (fun _ hk => hk.2) (.int .i64 t129)) (fun _ hk => hk.2) (.string t130)) (fun _ hk => hk.2) (.int .i64 t131)) (fun _ hk => hk.2) (.slice Ao29 t132.length co29)) (fun _ hk => hk.2) (.slice Ao30 t135.length co30)) (fun _ hk => hk.1.1), by repeat (first | (with_reducible first | exact HI0.out | apply IsS104.alloc | apply IsS104.drewN | apply IsS104.drew | apply IsS104.set_1 | refine IsS104.far ?_ NB0_114.out _) | exact HI0.out), by repeat (first | (with_reducible first | exact HB.out | apply below_alloc | apply pw_below_drewN | apply below_drew1 | refine below_set ?_ (IsS104.ge HI0.out) | refine below_set ?_ GE114.out) | exact HB.out), by repeat (first | (with_reducible first | exact HK.out | apply KeepBut.set_ | apply keep_drewN | apply keep_drew | apply keep_alloc | refine keep_far ?_ GW114.out _) | exact HK.out)⟩
      · replace c8 := Bool.eq_false_iff.mpr c8
        subst c8
        have H1 : ((spec_l15Rd_pick.f kj2 s0_0 x1001_2 4).bind fun bt139 => (spec_l1Some.l0 kj2 a1 bt139.1 s0_0 bt139.2 3 (⟨#[]⟩ : ByteArray) 0 ([] : List (S31)))) = some (r1, r2, r3, r4, r5, r6) := by rw [if_neg (show ¬ (false = true) by decide)] at H; exact H
        clear H
        have H := H1
        clear H1
        replace H := Option.bind_eq_some_iff.mp H
        obtain ⟨⟨t139, t140⟩, A310, H⟩ := H
        replace H : (spec_l1Some.l0 kj2 a1 t139 s0_0 t140 3 (⟨#[]⟩ : ByteArray) 0 ([] : List (S31))) = some (r1, r2, r3, r4, r5, r6) := H
        have A31 := Aside0.mk A310
        clear A310
        have H' := Aside0.mk H
        clear H
        go_wp2_with (first | ((with_reducible refine gate_dst (N := 5) rfl ?_); refine box_event ?hg (N := 5) ?hd (cs := #[.int .i64 0, .string (⟨#[]⟩ : ByteArray), .int .i64 0, .slice none 0 0, .slice none 0 0]) (t := 31) ?hr ?_; (case hd => rfl); (case hg => rfl); (case hr => first | (go_simp; done) | (go_simp; rfl)); intro gb138 hg w32 hbox hb; have n0_ := Aside0.mk (blk_below (g := gb114) (o := .cells #[.int .i64 0, .string (⟨#[]⟩ : ByteArray), .int .i64 0, .slice none 0 0, .slice none 0 0] 31 (0, 0)) (by (with_reducible repeat (first | refine blk_drewN ?_ _ | refine blk_drew ?_ | refine blk_alloc ?_ _)); exact BK114.out) hb); have n1_ := Aside0.mk (IsS104.below (by repeat (first | (with_reducible first | exact HI0.out | apply IsS104.alloc | apply IsS104.drewN | apply IsS104.drew | apply IsS104.set_1 | refine IsS104.far ?_ NB0_114.out _) | exact HI0.out)) hb); have n2_ := Aside0.mk (KeepBut.trans (by repeat (first | (with_reducible first | exact HK.out | apply KeepBut.set_ | apply keep_drewN | apply keep_drew | apply keep_alloc | refine keep_far ?_ GW114.out _) | exact HK.out)) (KeepBut.of_below hb g none) (.inl rfl)); have n3_ := Aside0.mk (below_step (by repeat (first | (with_reducible first | exact HB.out | apply below_alloc | apply pw_below_drewN | apply below_drew1 | refine below_set ?_ (IsS104.ge HI0.out) | refine below_set ?_ GE114.out) | exact HB.out)) hb); have n4_ := Aside0.mk (hbox); have n5_ := Aside0.mk ((by rw [hg]; exact (keep_size (w := w) (g := g) (row := none) (by repeat (first | (with_reducible first | exact HK.out | apply KeepBut.set_ | apply keep_drewN | apply keep_drew | apply keep_alloc | refine keep_far ?_ GW114.out _) | exact HK.out))) : w.heap.size ≤ gb138)); have n6_ := Aside0.mk ((Nat.le_trans HW0.out (by rw [hg]; exact (keep_size (w := w) (g := g) (row := none) (by repeat (first | (with_reducible first | exact HK.out | apply KeepBut.set_ | apply keep_drewN | apply keep_drew | apply keep_alloc | refine keep_far ?_ GW114.out _) | exact HK.out))) : w.heap.size ≤ gb138) : w0.heap.size ≤ gb138)); have n7_ := Aside0.mk ((by rw [hg]; exact Nat.ne_of_lt (blk_lt (g := gb114) (o := .cells #[.int .i64 0, .string (⟨#[]⟩ : ByteArray), .int .i64 0, .slice none 0 0, .slice none 0 0] 31 (0, 0)) (by (with_reducible repeat (first | refine blk_drewN ?_ _ | refine blk_drew ?_ | refine blk_alloc ?_ _)); exact BK114.out)) : gb114 ≠ gb138)); have n8_ := Aside0.mk ((by rw [hg]; exact Nat.ne_of_gt (blk_lt (g := gb114) (o := .cells #[.int .i64 0, .string (⟨#[]⟩ : ByteArray), .int .i64 0, .slice none 0 0, .slice none 0 0] 31 (0, 0)) (by (with_reducible repeat (first | refine blk_drewN ?_ _ | refine blk_drew ?_ | refine blk_alloc ?_ _)); exact BK114.out)) : gb138 ≠ gb114)); have n9_ := Aside0.mk ((by rw [hg]; exact Nat.ne_of_lt (IsS104.lt (show IsS104 w0 _ g s0_0 x1001_2 from by repeat (first | (with_reducible first | exact HI0.out | apply IsS104.alloc | apply IsS104.drewN | apply IsS104.drew | apply IsS104.set_1 | refine IsS104.far ?_ NB0_114.out _) | exact HI0.out))) : g ≠ gb138)); have n10_ := Aside0.mk ((by rw [hg]; exact Nat.ne_of_gt (IsS104.lt (show IsS104 w0 _ g s0_0 x1001_2 from by repeat (first | (with_reducible first | exact HI0.out | apply IsS104.alloc | apply IsS104.drewN | apply IsS104.drew | apply IsS104.set_1 | refine IsS104.far ?_ NB0_114.out _) | exact HI0.out))) : gb138 ≠ g)); clear BK114; clear HI0; clear HK; clear HB; have BK114 := n0_; have HI0 := n1_; have HK := n2_; have HB := n3_; have BK138 := n4_; have GW138 := n5_; have GE138 := n6_; have NB114_138 := n7_; have NB138_114 := n8_; have NB0_138 := n9_; have NB138_0 := n10_; clear n0_ n1_ n2_ n3_ n4_ n5_ n6_ n7_ n8_ n9_ n10_; clear hb hbox hg; have hnb33 := NB138_114.out; have hnc33 := NB114_138.out; have hnb34 := NB138_0.out; have hnc34 := NB0_138.out; have hcz35_0 : w32.cell? ⟨gb138, 0, none⟩ = some (.int .i64 0) := (blk_cell BK138.out 0).trans rfl; have hcz35_1 : w32.cell? ⟨gb138, 1, none⟩ = some (.string (⟨#[]⟩ : ByteArray)) := (blk_cell BK138.out 1).trans rfl; have hcz35_2 : w32.cell? ⟨gb138, 2, none⟩ = some (.int .i64 0) := (blk_cell BK138.out 2).trans rfl; have hcz35_3 : w32.cell? ⟨gb138, 3, none⟩ = some (.slice none 0 0) := (blk_cell BK138.out 3).trans rfl; have hcz35_4 : w32.cell? ⟨gb138, 4, none⟩ = some (.slice none 0 0) := (blk_cell BK138.out 4).trans rfl; have hfz35_0 := blk_frozen BK138.out 0; have hfz35_1 := blk_frozen BK138.out 1; have hfz35_2 := blk_frozen BK138.out 2; have hfz35_3 := blk_frozen BK138.out 3; have hfz35_4 := blk_frozen BK138.out 4) | ((with_reducible refine gate_callee (f := 79) rfl ?_); refine goesL_ (some 27) rfl rfl Try.func79 (by kernel_rfl) rfl #[.pointer (some ⟨g, 0, none⟩), .int .i64 4] rfl (by (try simp only [List.map_toArray, List.map_cons, List.map_nil]); first | done | rfl | (simp only [List.length_drop, List.length_take]; rfl)) ?_; (with_reducible refine (spec_l15Rd_pick.calls kj2 g s0_0 x1001_2 4 t139 t140 w0 _ ?side1 ?side2 A31.out).mono ?_); (case side1 => repeat (first | (with_reducible first | exact HI0.out | apply IsS104.alloc | apply IsS104.drewN | apply IsS104.drew | apply IsS104.set_1 | refine IsS104.far ?_ NB0_114.out _ | refine IsS104.far ?_ NB0_138.out _) | exact HI0.out)); (case side2 => repeat (first | (with_reducible first | exact HB.out | apply below_alloc | apply pw_below_drewN | apply below_drew1 | refine below_set ?_ (IsS104.ge HI0.out) | refine below_set ?_ GE114.out | refine below_set ?_ GE138.out) | exact HB.out)); rintro e w36 ⟨rfl, hi, hb, hk⟩; refine ⟨_, rfl, ?_⟩; have n0_ := Aside0.mk (KeepBut.blk hk (g' := gb114) (o := .cells #[.int .i64 0, .string (⟨#[]⟩ : ByteArray), .int .i64 0, .slice none 0 0, .slice none 0 0] 31 (0, 0)) (by (with_reducible repeat (first | refine blk_drewN ?_ _ | refine blk_drew ?_ | refine blk_alloc ?_ _)); refine blk_far ?_ NB114_138.out _; (with_reducible repeat (first | refine blk_drewN ?_ _ | refine blk_drew ?_ | refine blk_alloc ?_ _)); refine blk_far ?_ NB114_138.out _; (with_reducible repeat (first | refine blk_drewN ?_ _ | refine blk_drew ?_ | refine blk_alloc ?_ _)); refine blk_far ?_ NB114_138.out _; (with_reducible repeat (first | refine blk_drewN ?_ _ | refine blk_drew ?_ | refine blk_alloc ?_ _)); refine blk_far ?_ NB114_138.out _; (with_reducible repeat (first | refine blk_drewN ?_ _ | refine blk_drew ?_ | refine blk_alloc ?_ _)); refine blk_far ?_ NB114_138.out _; (with_reducible repeat (first | refine blk_drewN ?_ _ | refine blk_drew ?_ | refine blk_alloc ?_ _)); exact BK114.out) NB114_0.out (by simp)); have n1_ := Aside0.mk (KeepBut.blk hk (g' := gb138) (o := .cells #[.int .i64 3, .string (⟨#[]⟩ : ByteArray), .int .i64 0, .slice none 0 0, .slice none 0 0] 31 (0, 0)) (by (with_reducible repeat (first | refine blk_drewN ?_ _ | refine blk_drew ?_ | refine blk_alloc ?_ _)); refine blk_put (cs := #[.int .i64 3, .string (⟨#[]⟩ : ByteArray), .int .i64 0, .slice none 0 0, .slice none 0 0]) ?_ 4 _ rfl; (with_reducible repeat (first | refine blk_drewN ?_ _ | refine blk_drew ?_ | refine blk_alloc ?_ _)); refine blk_put (cs := #[.int .i64 3, .string (⟨#[]⟩ : ByteArray), .int .i64 0, .slice none 0 0, .slice none 0 0]) ?_ 3 _ rfl; (with_reducible repeat (first | refine blk_drewN ?_ _ | refine blk_drew ?_ | refine blk_alloc ?_ _)); refine blk_put (cs := #[.int .i64 3, .string (⟨#[]⟩ : ByteArray), .int .i64 0, .slice none 0 0, .slice none 0 0]) ?_ 2 _ rfl; (with_reducible repeat (first | refine blk_drewN ?_ _ | refine blk_drew ?_ | refine blk_alloc ?_ _)); refine blk_put (cs := #[.int .i64 3, .string (⟨#[]⟩ : ByteArray), .int .i64 0, .slice none 0 0, .slice none 0 0]) ?_ 1 _ rfl; (with_reducible repeat (first | refine blk_drewN ?_ _ | refine blk_drew ?_ | refine blk_alloc ?_ _)); refine blk_put (cs := #[.int .i64 0, .string (⟨#[]⟩ : ByteArray), .int .i64 0, .slice none 0 0, .slice none 0 0]) ?_ 0 _ rfl; (with_reducible repeat (first | refine blk_drewN ?_ _ | refine blk_drew ?_ | refine blk_alloc ?_ _)); exact BK138.out) NB138_0.out (by simp)); have n2_ := Aside0.mk (KeepBut.trans (by repeat (first | (with_reducible first | exact HK.out | apply KeepBut.set_ | apply keep_drewN | apply keep_drew | apply keep_alloc | refine keep_far ?_ GW114.out _ | refine keep_far ?_ GW138.out _) | exact HK.out)) hk (.inl rfl)); have n3_ := Aside0.mk (hb); have n4_ := Aside0.mk (hi); clear BK114; clear BK138; clear HK; clear HB; clear HI0; have BK114 := n0_; have BK138 := n1_; have HK := n2_; have HB := n3_; have HI0 := n4_; clear n0_ n1_ n2_ n3_ n4_; (try clear hb); (try clear hb2); (try clear hk); (try clear hi)))
        go_loopg [6] kj2 (fun kq v6 w' => ∃ (x6_2 : Int) (x1001_2 : Int) (x139004_2 : List (S31)) (u139004 : Value), v6 = .int .i64 x6_2 ∧ Aside0 (spec_l1Some.l0 kq a1 x6_2 s0_0 x1001_2 3 (⟨#[]⟩ : ByteArray) 0 x139004_2 = some (r1, r2, r3, r4, r5, r6)) ∧ Aside0 (kq ≤ kj2) ∧ Aside0 (Kd.R k31 31 w' w.heap.size (fun k_ => k_ ≠ gb114 ∧ k_ ≠ gb138) u139004 x139004_2) ∧ Aside0 (w'.heap[gb114]? = some (.cells #[.int .i64 0, .string (⟨#[]⟩ : ByteArray), .int .i64 0, (.slice none 0 0), (.slice none 0 0)] 31 (0, 0))) ∧ Aside0 (w'.heap[gb138]? = some (.cells #[.int .i64 3, .string (⟨#[]⟩ : ByteArray), .int .i64 0, (.slice none 0 0), u139004] 31 (0, 0))) ∧ Aside0 (IsS104 w0 w' g s0_0 x1001_2) ∧ Aside0 (KeepBut w w' g none) ∧ Aside0 (Below w0.heap.size w0 w'))
        case atStart => exact ⟨(t139), (t140), (([] : List (S31))), (.slice none 0 0), (by first | rfl | (simp; done) | (simp [*]; done)), H', ⟨Nat.le_refl _⟩, ⟨by first | exact Kd.R_nil _ _ _ _ _ | exact Kd.N_nil _ _ _ _ _ | exact Kd.V_nil _ _ _ _ _ | exact Kd.Q_nil _ _ _ _ _ | exact Kd.S_nil _ _ _ _ _⟩, ⟨by (with_reducible repeat (first | refine blk_drewN ?_ _ | refine blk_drew ?_ | refine blk_alloc ?_ _)); exact BK114.out⟩, ⟨by (with_reducible repeat (first | refine blk_drewN ?_ _ | refine blk_drew ?_ | refine blk_alloc ?_ _)); exact BK138.out⟩, ⟨by repeat (first | (with_reducible first | exact HI0.out | apply IsS104.alloc | apply IsS104.drewN | apply IsS104.drew | apply IsS104.set_1 | refine IsS104.far ?_ NB0_114.out _ | refine IsS104.far ?_ NB0_138.out _) | exact HI0.out)⟩, ⟨by repeat (first | (with_reducible first | exact HK.out | apply KeepBut.set_ | apply keep_drewN | apply keep_drew | apply keep_alloc | refine keep_far ?_ GW114.out _ | refine keep_far ?_ GW138.out _) | exact HK.out)⟩, ⟨by repeat (first | (with_reducible first | exact HB.out | apply below_alloc | apply pw_below_drewN | apply below_drew1 | refine below_set ?_ (IsS104.ge HI0.out) | refine below_set ?_ GE114.out | refine below_set ?_ GE138.out) | exact HB.out)⟩⟩
        case round =>
          clear H'
          try clear c1
          try clear c2
          try clear p2
          try clear c3
          try clear c5
          try clear c5b0
          try clear c5b1
          try clear c7
          try clear c8
          try clear c10
          try clear c10b0
          try clear c10b1
          try clear c11
          try clear c12
          try clear c13
          try clear c17
          try clear c27
          try clear c33
          try clear c34
          try clear hcz18_0
          try clear hcz18_1
          try clear hcz18_2
          try clear hcz18_3
          try clear hcz18_4
          try clear hcz28_0
          try clear hcz28_1
          try clear hcz28_2
          try clear hcz28_3
          try clear hcz28_4
          try clear hcz35_0
          try clear hcz35_1
          try clear hcz35_2
          try clear hcz35_3
          try clear hcz35_4
          try clear hfz18_0
          try clear hfz18_1
          try clear hfz18_2
          try clear hfz18_3
          try clear hfz18_4
          try clear hfz28_0
          try clear hfz28_1
          try clear hfz28_2
          try clear hfz28_3
          try clear hfz28_4
          try clear hfz35_0
          try clear hfz35_1
          try clear hfz35_2
          try clear hfz35_3
          try clear hfz35_4
          try clear p2
          obtain ⟨x6_2, x1001_2, x139004_2, u139004, rfl, HA, HK2, HO_139004, BK114, BK138, HI0, HK, HB⟩ := hrel
          cases gk with
          | zero => exact absurd HA.out (by simp [spec_l1Some.l0])
          | succ k2 =>
            have H := HA.out
            clear HA
            simp only [spec_l1Some.l0] at H
            by_cases c37 : x6_2 > 0
            · rw [if_pos c37] at H
              have c37b0 : decide (0 < x6_2) = true := decide_eq_true c37
              clear c37
              replace H := Option.bind_eq_some_iff.mp H
              obtain ⟨⟨t141, t142, t143, t144, t147, t150⟩, A380, H⟩ := H
              replace H : (if x139004_2.length < 1759218604441 then (spec_l1Some.l0 k2 a1 (wrap64 (x6_2 - 1)) s0_0 t150 3 (⟨#[]⟩ : ByteArray) 0 (x139004_2 ++ [(⟨t141, t142, t143, t144, t147⟩ : S31)])) else (none)) = some (r1, r2, r3, r4, r5, r6) := H
              have A38 := Aside0.mk A380
              clear A380
              by_cases c39 : x139004_2.length < 1759218604441
              · rw [if_pos c39] at H
                have LMc39 := Aside0.mk c39
                clear c39
                obtain ⟨y151, hy151⟩ : ∃ y_ : List (S31), y_ = (x139004_2 ++ [(⟨t141, t142, t143, t144, t147⟩ : S31)]) := ⟨_, rfl⟩
                replace H : (spec_l1Some.l0 k2 a1 (wrap64 (x6_2 - 1)) s0_0 t150 3 (⟨#[]⟩ : ByteArray) 0 y151) = some (r1, r2, r3, r4, r5, r6) := by first | (rw [hy151]; with_reducible exact H) | (have H2_ := (Option.bind_some _ _).symm.trans H; rw [hy151]; with_reducible exact H2_) | (have H2_ := (Option.bind_some _ _).symm.trans H; with_reducible exact H2_) | with_reducible exact H | (rw [hy151]; exact H) | exact H
                have Ny151 := Aside0.mk hy151
                clear hy151
                have H' := Aside0.mk H
                clear H
                try go_wp2
                have n0_ := Aside0.mk (Kd.R_drew HO_139004.out)
                have n1_ := Aside0.mk (blk_drew BK114.out)
                have n2_ := Aside0.mk (blk_drew BK138.out)
                have n3_ := Aside0.mk (IsS104.drew HI0.out)
                have n4_ := Aside0.mk (keep_drew HK.out)
                have n5_ := Aside0.mk (below_drew1 HB.out)
                clear HO_139004
                clear BK114
                clear BK138
                clear HI0
                clear HK
                clear HB
                have HO_139004 := n0_
                have BK114 := n1_
                have BK138 := n2_
                have HI0 := n3_
                have HK := n4_
                have HB := n5_
                clear n0_ n1_ n2_ n3_ n4_ n5_
                refine start_ (n := 10) (S := fun w' => w'.cell? ⟨gb138, 0, none⟩ = some (.int .i64 3) ∧ w'.cell? ⟨gb138, 1, none⟩ = some (.string (⟨#[]⟩ : ByteArray)) ∧ w'.cell? ⟨gb138, 2, none⟩ = some (.int .i64 0) ∧ w'.cell? ⟨gb138, 3, none⟩ = some (.slice none 0 0) ∧ w'.cell? ⟨gb138, 4, none⟩ = some (u139004)) (ds := [9]) #[false, false, false, false, false, false, false, false, false, false] (by kernel_rfl) rfl rfl ⟨(blk_cell BK138.out 0).trans rfl, (blk_cell BK138.out 1).trans rfl, (blk_cell BK138.out 2).trans rfl, (blk_cell BK138.out 3).trans rfl, (blk_cell BK138.out 4).trans rfl⟩ (fun hHeld => ?_); refine with_tabW spec_l1Some.tab9 spec_l1Some.bits9 (fun HT_ HW_ => ?_)
                generalize wr.drew = w40 at HO_139004 BK114 BK138 HI0 HK HB hHeld ⊢
                refine pure_ (i := 0) (N := some 32) (v := ?_) (a' := ?_) #[true, false, false, false, false, false, false, false, false, false] rfl rfl (any_of HT_.out (by kernel_rfl)) (fun _ _ _ h => h) (Or.inl ⟨by rfl, ?_⟩) ?_ ?_
                rotate_left
                · intro w'
                  go_simp
                  with_reducible rfl
                rotate_left
                · simp only [Act.put, List.setIfInBounds_toArray, List.set_cons_zero, List.set_cons_succ, i64_w, i32_w]
                  rfl
                refine pure_ (i := 2) (N := some 34) (v := ?_) (a' := ?_) #[true, false, true, false, false, false, false, false, false, false] rfl rfl (any_of HT_.out (by kernel_rfl)) (fun _ _ _ h => h) (Or.inl ⟨by rfl, ?_⟩) ?_ ?_
                rotate_left
                · intro w'
                  go_simp
                  with_reducible rfl
                rotate_left
                · simp only [Act.put, List.setIfInBounds_toArray, List.set_cons_zero, List.set_cons_succ, i64_w, i32_w]
                  rfl
                refine pure_ (i := 3) (N := some 35) (v := ?_) (a' := ?_) #[true, false, true, true, false, false, false, false, false, false] rfl rfl (any_of HT_.out (by kernel_rfl)) (fun _ _ _ h => h) (Or.inl ⟨by rfl, ?_⟩) ?_ ?_
                rotate_left
                · intro w'
                  go_simp
                  with_reducible rfl
                rotate_left
                · simp only [Act.put, List.setIfInBounds_toArray, List.set_cons_zero, List.set_cons_succ, i64_w, i32_w]
                  rfl
                refine pure_ (i := 4) (N := some 36) (v := ?_) (a' := ?_) #[true, false, true, true, true, false, false, false, false, false] rfl rfl (any_of HT_.out (by kernel_rfl)) (fun _ _ _ h => h) (Or.inl ⟨by rfl, ?_⟩) ?_ ?_
                rotate_left
                · intro w'
                  go_simp
                  with_reducible rfl
                rotate_left
                · simp only [Act.put, List.setIfInBounds_toArray, List.set_cons_zero, List.set_cons_succ, i64_w, i32_w]
                  rfl
                refine take_ (i := 1) (N := some 33) (v := ?_) (a' := ?_) #[true, true, true, true, true, false, false, false, false, false] rfl rfl (take_ofW HT_.out HW_.out (by kernel_rfl)) (fun _ _ _ h => h) (Or.inl ⟨by rfl, ?_⟩) hHeld ?_ ?_
                rotate_left
                · rintro w' ⟨s0, s1, s2, s3, s4⟩
                  go_simp
                  with_reducible rfl
                rotate_left
                · simp only [Act.put, List.setIfInBounds_toArray, List.set_cons_zero, List.set_cons_succ, i64_w, i32_w]
                  rfl
                refine one_ (i := 5) (N := some 37) #[true, true, true, true, true, true, false, false, false, false] rfl rfl (one_of HT_.out (by kernel_rfl)) (by decide) (fun K hK => ?_)
                refine goes_ Try.func112 (by kernel_rfl) rfl #[.pointer (some ⟨g, 0, none⟩), .int .i64 (wrap64 (a1 - 1))] (by rfl) rfl rfl (by (try simp only [List.map_toArray, List.map_cons, List.map_nil]); first | done | rfl | (simp only [List.length_drop, List.length_take]; rfl)) ?_
                with_reducible refine (ih k2 (by have := HJ2.out; have := HK2.out; omega) g s0_0 x1001_2 (wrap64 (a1 - 1)) t141 t142 t143 t144 t147 t150 w0 _ ?side1 ?side2 A38.out).mono ?_
                (case side1 => repeat (first | (with_reducible first | exact HI0.out | apply IsS104.alloc | apply IsS104.drewN | apply IsS104.drew | apply IsS104.set_1 | refine IsS104.far ?_ NB0_114.out _ | refine IsS104.far ?_ NB0_138.out _) | exact HI0.out))
                (case side2 => repeat (first | (with_reducible first | exact HB.out | apply below_alloc | apply pw_below_drewN | apply below_drew1 | refine below_set ?_ (IsS104.ge HI0.out) | refine below_set ?_ GE114.out | refine below_set ?_ GE138.out) | exact HB.out))
                rintro e w41 ⟨v145, v148, rfl, ho0, ho1, hi, hb, hk⟩
                refine ⟨_, rfl, ?_⟩
                have n0_ := Aside0.mk (Kd.R_mono (Kd.R_told (Kd.R_told (Kd.R_oldK (IsS104.apart (show IsS104 w0 _ g s0_0 x1001_2 from by repeat (first | (with_reducible first | exact HI0.out | apply IsS104.alloc | apply IsS104.drewN | apply IsS104.drew | apply IsS104.set_1 | refine IsS104.far ?_ NB0_114.out _ | refine IsS104.far ?_ NB0_138.out _) | exact HI0.out)) (by (with_reducible repeat (first | apply Kd.R_alloc | apply Kd.R_drewN | apply Kd.R_drew)); exact HO_139004.out) (by decide)) hk) (Kd.R_base ho0)) (Kd.R_base ho1)) (fun _ h_ => h_.1))
                have n1_ := Aside0.mk (KeepBut.blk hk (g' := gb114) (o := .cells #[.int .i64 0, .string (⟨#[]⟩ : ByteArray), .int .i64 0, .slice none 0 0, .slice none 0 0] 31 (0, 0)) (by (with_reducible repeat (first | refine blk_drewN ?_ _ | refine blk_drew ?_ | refine blk_alloc ?_ _)); exact BK114.out) NB114_0.out (by simp))
                have n2_ := Aside0.mk (KeepBut.blk hk (g' := gb138) (o := .cells #[.int .i64 3, .string (⟨#[]⟩ : ByteArray), .int .i64 0, .slice none 0 0, u139004] 31 (0, 0)) (by (with_reducible repeat (first | refine blk_drewN ?_ _ | refine blk_drew ?_ | refine blk_alloc ?_ _)); exact BK138.out) NB138_0.out (by simp))
                have n3_ := Aside0.mk (Kd.R_lower ho0 (keep_size (w := w) (g := g) (row := none) (by repeat (first | (with_reducible first | exact HK.out | apply KeepBut.set_ | apply keep_drewN | apply keep_drew | apply keep_alloc | refine keep_far ?_ GW114.out _ | refine keep_far ?_ GW138.out _) | exact HK.out))))
                have n4_ := Aside0.mk (Kd.R_lower (Kd.R_newB (Kd.R_newB (Kd.R_new' ho1 (Kd.R_lt (by (with_reducible repeat (first | apply Kd.R_alloc | apply Kd.R_drewN | apply Kd.R_drew)); exact HO_139004.out))) (g := gb114) (o := .cells #[.int .i64 0, .string (⟨#[]⟩ : ByteArray), .int .i64 0, .slice none 0 0, .slice none 0 0] 31 (0, 0)) (by (with_reducible repeat (first | refine blk_drewN ?_ _ | refine blk_drew ?_ | refine blk_alloc ?_ _)); exact BK114.out)) (g := gb138) (o := .cells #[.int .i64 3, .string (⟨#[]⟩ : ByteArray), .int .i64 0, .slice none 0 0, u139004] 31 (0, 0)) (by (with_reducible repeat (first | refine blk_drewN ?_ _ | refine blk_drew ?_ | refine blk_alloc ?_ _)); exact BK138.out)) (keep_size (w := w) (g := g) (row := none) (by repeat (first | (with_reducible first | exact HK.out | apply KeepBut.set_ | apply keep_drewN | apply keep_drew | apply keep_alloc | refine keep_far ?_ GW114.out _ | refine keep_far ?_ GW138.out _) | exact HK.out))))
                have n5_ := Aside0.mk (KeepBut.trans (by repeat (first | (with_reducible first | exact HK.out | apply KeepBut.set_ | apply keep_drewN | apply keep_drew | apply keep_alloc | refine keep_far ?_ GW114.out _ | refine keep_far ?_ GW138.out _) | exact HK.out)) hk (.inl rfl))
                have n6_ := Aside0.mk (hb)
                have n7_ := Aside0.mk (hi)
                clear HO_139004
                clear BK114
                clear BK138
                clear HK
                clear HB
                clear HI0
                have HO_139004 := n0_
                have BK114 := n1_
                have BK138 := n2_
                have HO146 := n3_
                have HO149 := n4_
                have HK := n5_
                have HB := n6_
                have HI0 := n7_
                clear n0_ n1_ n2_ n3_ n4_ n5_ n6_ n7_
                (try clear hb)
                (try clear hb2)
                (try clear hk)
                (try clear hi)
                (try clear ho0)
                (try clear ho1)
                obtain ⟨Ao43, co43, eo43⟩ := Kd.R_slice HO146.out
                (first | subst eo43 | (injection eo43 with f1_ f2_ f3_; have f4_ := f1_.symm; have f5_ := f3_.symm; clear f1_ f2_ f3_; subst f4_; subst f5_))
                obtain ⟨Ao44, co44, eo44⟩ := Kd.R_slice HO149.out
                (first | subst eo44 | (injection eo44 with f1_ f2_ f3_; have f4_ := f1_.symm; have f5_ := f3_.symm; clear f1_ f2_ f3_; subst f4_; subst f5_))
                refine hK.out _ _ ⟨(blk_cell BK138.out 0).trans rfl, (blk_cell BK138.out 1).trans rfl, (blk_cell BK138.out 2).trans rfl, (blk_cell BK138.out 3).trans rfl, (blk_cell BK138.out 4).trans rfl⟩ (fun hHeld => ?_)
                clear hK K
                refine norm_ (a' := ?_) ?_ ?_
                rotate_left
                · show Act.put _ (some 37) _ = _
                  simp only [Act.put, List.setIfInBounds_toArray, List.set_cons_zero, List.set_cons_succ, i64_w, i32_w]
                  rfl
                refine one_ (i := 6) (N := some 38) #[true, true, true, true, true, true, true, false, false, false] rfl rfl (one_of HT_.out (by kernel_rfl)) (by decide) (fun K hK => ?_)
                refine value_ (w1 := ?_) (v := ?_) (by rfl) rfl ?_ ?_
                rotate_left 2
                · go_simp
                  constructor
                  · rfl
                  · rfl
                refine hK.out _ _ ⟨(blk_cell (blk_alloc BK138.out _) 0).trans rfl, (blk_cell (blk_alloc BK138.out _) 1).trans rfl, (blk_cell (blk_alloc BK138.out _) 2).trans rfl, (blk_cell (blk_alloc BK138.out _) 3).trans rfl, (blk_cell (blk_alloc BK138.out _) 4).trans rfl⟩ (fun hHeld => ?_)
                clear hK K
                refine norm_ (a' := ?_) ?_ ?_
                rotate_left
                · show Act.put _ (some 38) _ = _
                  simp only [Act.put, List.setIfInBounds_toArray, List.set_cons_zero, List.set_cons_succ, i64_w, i32_w]
                  rfl
                refine one_ (i := 7) (N := some 39) #[true, true, true, true, true, true, true, true, false, false] rfl rfl (one_of HT_.out (by kernel_rfl)) (by decide) (fun K hK => ?_)
                refine Kd.R_append_step k31 w.heap.size (by rfl) (.tmp 33) (.tmp 38) 29 31 (.agg #[(.int .i64 0), (.string ⟨#[]⟩), (.int .i64 0), (.slice none 0 0), (.slice none 0 0)]) 80 rfl Try.underlying29 info31 rfl (by decide) (by omega) u139004 x139004_2 (⟨t141, t142, t143, t144, t147⟩ : S31) [.int .i64 t141, .string t142, .int .i64 t143, .slice Ao43 t144.length co43, .slice Ao44 t147.length co44] (fun k_ => k_ ≠ gb114 ∧ k_ ≠ gb138) (fun k_ => ((fun k_ => k_ ≠ gb114 ∧ k_ ≠ gb138)) k_ ∧ some k_ ≠ (u139004 : Value).ownBlock) rfl rfl ?aP (fun _ hk => hk) ?aF ?aO (Below.refl _ _) ?aS ?aL ?_
                (case aP => exact k31_mkM _ _ _ (⟨t141, t142, t143, t144, t147⟩ : S31) (Kd.R_mono (Kd.R_types (Kd.R_types (Kd.R_apart' (HO146.out) (Kd.R_typed HO_139004.out) (by decide)) BK114.out (by decide)) BK138.out (by decide)) (fun k_ hk => ⟨⟨hk.1.2, hk.2⟩, hk.1.1.2⟩)) (Kd.R_mono (HO149.out) (fun k_ hk => ⟨⟨hk.1.2, hk.2⟩, hk.1.1.2⟩)))
                (case aF => exact (fun k_ hk => ⟨Kd.freshB (g := gb114) (o := .cells #[.int .i64 0, .string (⟨#[]⟩ : ByteArray), .int .i64 0, .slice none 0 0, .slice none 0 0] 31 (0, 0)) (by (with_reducible repeat (first | refine blk_drewN ?_ _ | refine blk_drew ?_ | refine blk_alloc ?_ _)); exact BK114.out) k_ hk, Kd.freshB (g := gb138) (o := .cells #[.int .i64 3, .string (⟨#[]⟩ : ByteArray), .int .i64 0, .slice none 0 0, u139004] 31 (0, 0)) (by (with_reducible repeat (first | refine blk_drewN ?_ _ | refine blk_drew ?_ | refine blk_alloc ?_ _)); exact BK138.out) k_ hk⟩))
                (case aO => exact (by (with_reducible repeat (first | apply Kd.R_alloc | apply Kd.R_drewN | apply Kd.R_drew)); exact Kd.R_mono HO_139004.out (fun _ hk => ⟨hk.1.1.1, hk.1.1.2⟩)))
                (case aS => exact (keep_size (w := w) (g := g) (row := none) (by repeat (first | (with_reducible first | exact HK.out | apply KeepBut.set_ | apply keep_drewN | apply keep_drew | apply keep_alloc | refine keep_far ?_ GW114.out _ | refine keep_far ?_ GW138.out _) | exact HK.out))))
                (case aL => have := LMc39.out; omega)
                intro v152 w42 ho hb hg hat
                rw [← Ny151.out] at ho
                have n0_ := Aside0.mk (blk_grown (g := gb114) (o := .cells #[.int .i64 0, .string (⟨#[]⟩ : ByteArray), .int .i64 0, .slice none 0 0, .slice none 0 0] 31 (0, 0)) (by (with_reducible repeat (first | refine blk_drewN ?_ _ | refine blk_drew ?_ | refine blk_alloc ?_ _)); exact BK114.out) hg (Kd.R_away HO_139004.out (fun _ hk => hk.1.1.1)))
                have n1_ := Aside0.mk (blk_grown (g := gb138) (o := .cells #[.int .i64 3, .string (⟨#[]⟩ : ByteArray), .int .i64 0, .slice none 0 0, u139004] 31 (0, 0)) (by (with_reducible repeat (first | refine blk_drewN ?_ _ | refine blk_drew ?_ | refine blk_alloc ?_ _)); exact BK138.out) hg (Kd.R_away HO_139004.out (fun _ hk => hk.1.1.2)))
                have n2_ := Aside0.mk (IsS104.grown (by repeat (first | (with_reducible first | exact HI0.out | apply IsS104.alloc | apply IsS104.drewN | apply IsS104.drew | apply IsS104.set_1 | refine IsS104.far ?_ NB0_114.out _ | refine IsS104.far ?_ NB0_138.out _) | exact HI0.out)) hg (IsS104.own_ne HI0.out HO_139004.out (by decide)))
                have n3_ := Aside0.mk (below_weaken (by repeat (first | (with_reducible first | exact HB.out | apply below_alloc | apply pw_below_drewN | apply below_drew1 | refine below_set ?_ (IsS104.ge HI0.out) | refine below_set ?_ GE114.out | refine below_set ?_ GE138.out) | exact HB.out)) HL.out hb)
                have n4_ := Aside0.mk (KeepBut.trans (by repeat (first | (with_reducible first | exact HK.out | apply KeepBut.set_ | apply keep_drewN | apply keep_drew | apply keep_alloc | refine keep_far ?_ GW114.out _ | refine keep_far ?_ GW138.out _) | exact HK.out)) (KeepBut.of_grown hg g) (Kd.R_base2 HO_139004.out))
                have n5_ := Aside0.mk (ho)
                clear BK114
                clear BK138
                clear HI0
                clear HB
                clear HK
                clear HO_139004
                clear HO146
                clear HO149
                have BK114 := n0_
                have BK138 := n1_
                have HI0 := n2_
                have HB := n3_
                have HK := n4_
                have HO153 := n5_
                clear n0_ n1_ n2_ n3_ n4_ n5_
                clear ho hb hg hat
                obtain ⟨Ao45, co45, eo45⟩ := Kd.R_slice HO153.out
                (first | subst eo45 | (injection eo45 with f1_ f2_ f3_; have f4_ := f1_.symm; have f5_ := f3_.symm; clear f1_ f2_ f3_; subst f4_; subst f5_))
                refine hK.out _ _ ⟨(blk_cell BK138.out 0).trans rfl, (blk_cell BK138.out 1).trans rfl, (blk_cell BK138.out 2).trans rfl, (blk_cell BK138.out 3).trans rfl, (blk_cell BK138.out 4).trans rfl⟩ (fun hHeld => ?_)
                clear hK K
                refine norm_ (a' := ?_) ?_ ?_
                rotate_left
                · show Act.put _ (some 39) _ = _
                  simp only [Act.put, List.setIfInBounds_toArray, List.set_cons_zero, List.set_cons_succ, i64_w, i32_w]
                  rfl
                refine pure_ (i := 8) (N := some 40) (v := ?_) (a' := ?_) #[true, true, true, true, true, true, true, true, true, false] rfl rfl (any_of HT_.out (by kernel_rfl)) (fun _ _ _ h => h) (Or.inl ⟨by rfl, ?_⟩) ?_ ?_
                rotate_left
                · intro w'
                  go_simp
                  with_reducible rfl
                rotate_left
                · simp only [Act.put, List.setIfInBounds_toArray, List.set_cons_zero, List.set_cons_succ, i64_w, i32_w]
                  rfl
                refine last_ (i := 9) (N := none) #[true, true, true, true, true, true, true, true, true, true] rfl rfl (one_of HT_.out (by kernel_rfl)) (by decide) (fun K hK => ?_)
                have hs46 : w42.cell? ⟨gb138, 4, none⟩ = some (u139004) := (blk_cell BK138.out 4).trans rfl
                have hfs46 := blk_frozen BK138.out 4
                have hns46_0 := NB114_138.out
                have hms46_0 := NB138_114.out
                refine skip_ (w1 := ?_) (by rfl) rfl ?_ ?_
                rotate_left
                · go_simp
                  rfl
                refine hK.out _ _ ?_
                clear hK K
                refine done_ (done_of HT_.out (by kernel_rfl)) ?_
                try go_wp2
                go_roundg k2
                case measure => have := HJ2.out; have := HK2.out; omega
                case rel => exact ⟨(wrap64 (x6_2 - 1)), (t150), (y151), (.slice Ao45 y151.length co45), (by first | rfl | (simp; done) | (simp [*]; done)), H', ⟨by have := HJ2.out; have := HK2.out; omega⟩, ⟨by (with_reducible repeat (first | apply Kd.R_alloc | apply Kd.R_drewN | apply Kd.R_drew)); exact Kd.R_mono (Kd.R_far (p := ⟨gb138, 4, none⟩) (Kd.R_mono HO153.out (fun k_ hk => (⟨hk, hk.2⟩ : _ ∧ k_ ≠ gb138))) (fun _ hk => hk.2) (.slice Ao45 y151.length co45)) (fun _ hk => ⟨hk.1.1, hk.1.2⟩)⟩, ⟨by (with_reducible repeat (first | refine blk_drewN ?_ _ | refine blk_drew ?_ | refine blk_alloc ?_ _)); refine blk_far ?_ NB114_138.out _; (with_reducible repeat (first | refine blk_drewN ?_ _ | refine blk_drew ?_ | refine blk_alloc ?_ _)); exact BK114.out⟩, ⟨by (with_reducible repeat (first | refine blk_drewN ?_ _ | refine blk_drew ?_ | refine blk_alloc ?_ _)); refine blk_put (cs := #[.int .i64 3, .string (⟨#[]⟩ : ByteArray), .int .i64 0, .slice none 0 0, u139004]) ?_ 4 _ rfl; (with_reducible repeat (first | refine blk_drewN ?_ _ | refine blk_drew ?_ | refine blk_alloc ?_ _)); exact BK138.out⟩, ⟨by repeat (first | (with_reducible first | exact HI0.out | apply IsS104.alloc | apply IsS104.drewN | apply IsS104.drew | apply IsS104.set_1 | refine IsS104.far ?_ NB0_114.out _ | refine IsS104.far ?_ NB0_138.out _) | exact HI0.out)⟩, ⟨by repeat (first | (with_reducible first | exact HK.out | apply KeepBut.set_ | apply keep_drewN | apply keep_drew | apply keep_alloc | refine keep_far ?_ GW114.out _ | refine keep_far ?_ GW138.out _) | exact HK.out)⟩, ⟨by repeat (first | (with_reducible first | exact HB.out | apply below_alloc | apply pw_below_drewN | apply below_drew1 | refine below_set ?_ (IsS104.ge HI0.out) | refine below_set ?_ GE114.out | refine below_set ?_ GE138.out) | exact HB.out)⟩⟩
              · rw [if_neg c39] at H
                exact absurd H (by simp)
            · rw [if_neg c37] at H
              have c37b0 : decide (0 < x6_2) = false := decide_eq_false c37
              clear c37
              simp only [Option.some.injEq, Prod.mk.injEq] at H
              obtain ⟨rfl, rfl, rfl, rfl, rfl, rfl⟩ := H
              have hnb47 := NB138_114.out
              have hnc47 := NB114_138.out
              have hnb48 := NB138_0.out
              have hnc48 := NB0_138.out
              have hcz49_0 : wr.cell? ⟨gb138, 0, none⟩ = some (.int .i64 3) := (blk_cell BK138.out 0).trans rfl
              have hcz49_1 : wr.cell? ⟨gb138, 1, none⟩ = some (.string (⟨#[]⟩ : ByteArray)) := (blk_cell BK138.out 1).trans rfl
              have hcz49_2 : wr.cell? ⟨gb138, 2, none⟩ = some (.int .i64 0) := (blk_cell BK138.out 2).trans rfl
              have hcz49_3 : wr.cell? ⟨gb138, 3, none⟩ = some (.slice none 0 0) := (blk_cell BK138.out 3).trans rfl
              have hcz49_4 : wr.cell? ⟨gb138, 4, none⟩ = some (u139004) := (blk_cell BK138.out 4).trans rfl
              have hfz49_0 := blk_frozen BK138.out 0
              have hfz49_1 := blk_frozen BK138.out 1
              have hfz49_2 := blk_frozen BK138.out 2
              have hfz49_3 := blk_frozen BK138.out 3
              have hfz49_4 := blk_frozen BK138.out 4
              have hnb50 := NB114_0.out
              have hnc50 := NB0_114.out
              have hcz51_0 : wr.cell? ⟨gb114, 0, none⟩ = some (.int .i64 0) := (blk_cell BK114.out 0).trans rfl
              have hcz51_1 : wr.cell? ⟨gb114, 1, none⟩ = some (.string (⟨#[]⟩ : ByteArray)) := (blk_cell BK114.out 1).trans rfl
              have hcz51_2 : wr.cell? ⟨gb114, 2, none⟩ = some (.int .i64 0) := (blk_cell BK114.out 2).trans rfl
              have hcz51_3 : wr.cell? ⟨gb114, 3, none⟩ = some (.slice none 0 0) := (blk_cell BK114.out 3).trans rfl
              have hcz51_4 : wr.cell? ⟨gb114, 4, none⟩ = some (.slice none 0 0) := (blk_cell BK114.out 4).trans rfl
              have hfz51_0 := blk_frozen BK114.out 0
              have hfz51_1 := blk_frozen BK114.out 1
              have hfz51_2 := blk_frozen BK114.out 2
              have hfz51_3 := blk_frozen BK114.out 3
              have hfz51_4 := blk_frozen BK114.out 4
              obtain ⟨Ao52, co52, eo52⟩ := Kd.R_slice HO_139004.out
              subst eo52
              go_wp2
              refine bodyPost_ret (results_cell_row rfl _ _ gb114 31 #[.int .i64 3, .string (⟨#[]⟩ : ByteArray), .int .i64 0, .slice none 0 0, .slice Ao52 x139004_2.length co52] (0, 0) _ rfl (by (with_reducible repeat (first | refine blk_drewN ?_ _ | refine blk_drew ?_ | refine blk_alloc ?_ _)); refine blk_put (cs := #[.int .i64 3, .string (⟨#[]⟩ : ByteArray), .int .i64 0, .slice none 0 0, .slice none 0 0]) ?_ 4 _ rfl; (with_reducible repeat (first | refine blk_drewN ?_ _ | refine blk_drew ?_ | refine blk_alloc ?_ _)); refine blk_put (cs := #[.int .i64 3, .string (⟨#[]⟩ : ByteArray), .int .i64 0, .slice none 0 0, .slice none 0 0]) ?_ 3 _ rfl; (with_reducible repeat (first | refine blk_drewN ?_ _ | refine blk_drew ?_ | refine blk_alloc ?_ _)); refine blk_put (cs := #[.int .i64 3, .string (⟨#[]⟩ : ByteArray), .int .i64 0, .slice none 0 0, .slice none 0 0]) ?_ 2 _ rfl; (with_reducible repeat (first | refine blk_drewN ?_ _ | refine blk_drew ?_ | refine blk_alloc ?_ _)); refine blk_put (cs := #[.int .i64 3, .string (⟨#[]⟩ : ByteArray), .int .i64 0, .slice none 0 0, .slice none 0 0]) ?_ 1 _ rfl; (with_reducible repeat (first | refine blk_drewN ?_ _ | refine blk_drew ?_ | refine blk_alloc ?_ _)); refine blk_put (cs := #[.int .i64 0, .string (⟨#[]⟩ : ByteArray), .int .i64 0, .slice none 0 0, .slice none 0 0]) ?_ 0 _ rfl; (with_reducible repeat (first | refine blk_drewN ?_ _ | refine blk_drew ?_ | refine blk_alloc ?_ _)); exact BK114.out) Try.underlying31 rfl (by kernel_rfl)) rfl ?_
              exact ⟨_, _, by first | rfl | (simp [errW_none, errW_some] <;> rfl) | (simp [*, errW_none, errW_some] <;> rfl), by first | exact Kd.R_nil _ _ _ _ _ | exact Kd.N_nil _ _ _ _ _ | exact Kd.V_nil _ _ _ _ _ | exact Kd.Q_nil _ _ _ _ _ | exact Kd.S_nil _ _ _ _ _, by (with_reducible repeat (first | apply Kd.R_alloc | apply Kd.R_drewN | apply Kd.R_drew)); exact Kd.R_mono (Kd.R_far (p := ⟨gb114, 4, none⟩) (Kd.R_far (p := ⟨gb114, 3, none⟩) (Kd.R_far (p := ⟨gb114, 2, none⟩) (Kd.R_far (p := ⟨gb114, 1, none⟩) (Kd.R_far (p := ⟨gb114, 0, none⟩) (Kd.R_mono HO_139004.out (fun k_ hk => (⟨hk, hk.1⟩ : _ ∧ k_ ≠ gb114))) (fun _ hk => hk.2) (.int .i64 3)) (fun _ hk => hk.2) (.string (⟨#[]⟩ : ByteArray))) (fun _ hk => hk.2) (.int .i64 0)) (fun _ hk => hk.2) (.slice none 0 0)) (fun _ hk => hk.2) (.slice Ao52 x139004_2.length co52)) (fun _ hk => (by simp [Value.ownBlock])), by repeat (first | (with_reducible first | exact HI0.out | apply IsS104.alloc | apply IsS104.drewN | apply IsS104.drew | apply IsS104.set_1 | refine IsS104.far ?_ NB0_114.out _ | refine IsS104.far ?_ NB0_138.out _) | exact HI0.out), by repeat (first | (with_reducible first | exact HB.out | apply below_alloc | apply pw_below_drewN | apply below_drew1 | refine below_set ?_ (IsS104.ge HI0.out) | refine below_set ?_ GE114.out | refine below_set ?_ GE138.out) | exact HB.out), by repeat (first | (with_reducible first | exact HK.out | apply KeepBut.set_ | apply keep_drewN | apply keep_drew | apply keep_alloc | refine keep_far ?_ GW114.out _ | refine keep_far ?_ GW138.out _) | exact HK.out)⟩

/-! ### spec_l1Letter: function 150 -/
def spec_l1Letter.f (a0 : Int) (a1 : Bool) : Option (Bool) := if a0 ≥ 97 then (if a0 ≤ 122 then (some true) else (if a0 = 42 then (some true) else (if a0 = 63 then (some true) else (if a0 = 61 then (some true) else (if a0 = 43 then (some true) else (if a0 = 60 then (some true) else (if a1 = true then (some false) else (if a0 ≥ 48 then (if a0 ≤ 57 then (some true) else (some (a0 == 45))) else (some (a0 == 45)))))))))) else (if a0 = 42 then (some true) else (if a0 = 63 then (some true) else (if a0 = 61 then (some true) else (if a0 = 43 then (some true) else (if a0 = 60 then (some true) else (if a1 = true then (some false) else (if a0 ≥ 48 then (if a0 ≤ 57 then (some true) else (some (a0 == 45))) else (some (a0 == 45)))))))))
set_option maxHeartbeats 8000000 in
set_option maxRecDepth 100000 in
theorem spec_l1Letter.calls (a0 : Int) (a1 : Bool) (r : Bool) (w : World) (h : spec_l1Letter.f a0 a1 = some r) :
    Calls Try.prog 150 #[.int .u8 a0, .bool a1] w fun e w' => e = .returned (.bool r) ∧ Drawn0 w w' := by
  have H : (if a0 ≥ 97 then (if a0 ≤ 122 then (some true) else (if a0 = 42 then (some true) else (if a0 = 63 then (some true) else (if a0 = 61 then (some true) else (if a0 = 43 then (some true) else (if a0 = 60 then (some true) else (if a1 = true then (some false) else (if a0 ≥ 48 then (if a0 ≤ 57 then (some true) else (some (a0 == 45))) else (some (a0 == 45)))))))))) else (if a0 = 42 then (some true) else (if a0 = 63 then (some true) else (if a0 = 61 then (some true) else (if a0 = 43 then (some true) else (if a0 = 60 then (some true) else (if a1 = true then (some false) else (if a0 ≥ 48 then (if a0 ≤ 57 then (some true) else (some (a0 == 45))) else (some (a0 == 45)))))))))) = some r := h
  clear h
  by_cases c3 : a0 ≥ 97
  · rw [if_pos c3] at H
    have c3b0 : decide (97 ≤ a0) = true := decide_eq_true c3
    clear c3
    by_cases c4 : a0 ≤ 122
    · rw [if_pos c4] at H
      have c4b0 : decide (a0 ≤ 122) = true := decide_eq_true c4
      clear c4
      obtain rfl := Option.some.inj H
      go_enter Try.func150, Try.ntmps150
      go_wp2
      go_ret
      exact ⟨by first | rfl | (simp; done) | (simp [*]; done), by repeat (first | exact Drawn0.refl _ | apply Drawn0.step)⟩
    · rw [if_neg c4] at H
      have c4b0 : decide (a0 ≤ 122) = false := decide_eq_false c4
      clear c4
      by_cases c5 : a0 = 42
      · rw [if_pos c5] at H
        have c5b0 : (a0 == 42) = true := beq_iff_eq.mpr c5
        have c5b1 : (a0 != 42) = false := bne_eq_false_iff_eq.mpr c5
        clear c5
        obtain rfl := Option.some.inj H
        go_enter Try.func150, Try.ntmps150
        go_wp2
        go_ret
        exact ⟨by first | rfl | (simp; done) | (simp [*]; done), by repeat (first | exact Drawn0.refl _ | apply Drawn0.step)⟩
      · rw [if_neg c5] at H
        have c5b0 : (a0 == 42) = false := beq_eq_false_iff_ne.mpr c5
        have c5b1 : (a0 != 42) = true := bne_iff_ne.mpr c5
        by_cases c6 : a0 = 63
        · rw [if_pos c6] at H
          have c6b0 : (a0 == 63) = true := beq_iff_eq.mpr c6
          have c6b1 : (a0 != 63) = false := bne_eq_false_iff_eq.mpr c6
          clear c6
          obtain rfl := Option.some.inj H
          go_enter Try.func150, Try.ntmps150
          go_wp2
          go_ret
          exact ⟨by first | rfl | (simp; done) | (simp [*]; done), by repeat (first | exact Drawn0.refl _ | apply Drawn0.step)⟩
        · rw [if_neg c6] at H
          have c6b0 : (a0 == 63) = false := beq_eq_false_iff_ne.mpr c6
          have c6b1 : (a0 != 63) = true := bne_iff_ne.mpr c6
          by_cases c7 : a0 = 61
          · rw [if_pos c7] at H
            have c7b0 : (a0 == 61) = true := beq_iff_eq.mpr c7
            have c7b1 : (a0 != 61) = false := bne_eq_false_iff_eq.mpr c7
            clear c7
            obtain rfl := Option.some.inj H
            go_enter Try.func150, Try.ntmps150
            go_wp2
            go_ret
            exact ⟨by first | rfl | (simp; done) | (simp [*]; done), by repeat (first | exact Drawn0.refl _ | apply Drawn0.step)⟩
          · rw [if_neg c7] at H
            have c7b0 : (a0 == 61) = false := beq_eq_false_iff_ne.mpr c7
            have c7b1 : (a0 != 61) = true := bne_iff_ne.mpr c7
            by_cases c8 : a0 = 43
            · rw [if_pos c8] at H
              have c8b0 : (a0 == 43) = true := beq_iff_eq.mpr c8
              have c8b1 : (a0 != 43) = false := bne_eq_false_iff_eq.mpr c8
              clear c8
              obtain rfl := Option.some.inj H
              go_enter Try.func150, Try.ntmps150
              go_wp2
              go_ret
              exact ⟨by first | rfl | (simp; done) | (simp [*]; done), by repeat (first | exact Drawn0.refl _ | apply Drawn0.step)⟩
            · rw [if_neg c8] at H
              have c8b0 : (a0 == 43) = false := beq_eq_false_iff_ne.mpr c8
              have c8b1 : (a0 != 43) = true := bne_iff_ne.mpr c8
              by_cases c9 : a0 = 60
              · rw [if_pos c9] at H
                have c9b0 : (a0 == 60) = true := beq_iff_eq.mpr c9
                have c9b1 : (a0 != 60) = false := bne_eq_false_iff_eq.mpr c9
                clear c9
                obtain rfl := Option.some.inj H
                go_enter Try.func150, Try.ntmps150
                go_wp2
                go_ret
                exact ⟨by first | rfl | (simp; done) | (simp [*]; done), by repeat (first | exact Drawn0.refl _ | apply Drawn0.step)⟩
              · rw [if_neg c9] at H
                have c9b0 : (a0 == 60) = false := beq_eq_false_iff_ne.mpr c9
                have c9b1 : (a0 != 60) = true := bne_iff_ne.mpr c9
                by_cases c10 : a1 = true
                · subst c10
                  have H1 : (some false) = some r := by rw [if_pos rfl] at H; exact H
                  clear H
                  have H := H1
                  clear H1
                  obtain rfl := Option.some.inj H
                  go_enter Try.func150, Try.ntmps150
                  go_wp2
                  go_ret
                  exact ⟨by first | rfl | (simp; done) | (simp [*]; done), by repeat (first | exact Drawn0.refl _ | apply Drawn0.step)⟩
                · replace c10 := Bool.eq_false_iff.mpr c10
                  subst c10
                  have H1 : (if a0 ≥ 48 then (if a0 ≤ 57 then (some true) else (some (a0 == 45))) else (some (a0 == 45))) = some r := by rw [if_neg (show ¬ (false = true) by decide)] at H; exact H
                  clear H
                  have H := H1
                  clear H1
                  by_cases c11 : a0 ≥ 48
                  · rw [if_pos c11] at H
                    have c11b0 : decide (48 ≤ a0) = true := decide_eq_true c11
                    clear c11
                    by_cases c12 : a0 ≤ 57
                    · rw [if_pos c12] at H
                      have c12b0 : decide (a0 ≤ 57) = true := decide_eq_true c12
                      clear c12
                      obtain rfl := Option.some.inj H
                      go_enter Try.func150, Try.ntmps150
                      go_wp2
                      go_ret
                      exact ⟨by first | rfl | (simp; done) | (simp [*]; done), by repeat (first | exact Drawn0.refl _ | apply Drawn0.step)⟩
                    · rw [if_neg c12] at H
                      have c12b0 : decide (a0 ≤ 57) = false := decide_eq_false c12
                      clear c12
                      obtain rfl := Option.some.inj H
                      go_enter Try.func150, Try.ntmps150
                      go_wp2
                      go_ret
                      exact ⟨by first | rfl | (simp; done) | (simp [*]; done), by repeat (first | exact Drawn0.refl _ | apply Drawn0.step)⟩
                  · rw [if_neg c11] at H
                    have c11b0 : decide (48 ≤ a0) = false := decide_eq_false c11
                    clear c11
                    obtain rfl := Option.some.inj H
                    go_enter Try.func150, Try.ntmps150
                    go_wp2
                    go_ret
                    exact ⟨by first | rfl | (simp; done) | (simp [*]; done), by repeat (first | exact Drawn0.refl _ | apply Drawn0.step)⟩
  · rw [if_neg c3] at H
    have c3b0 : decide (97 ≤ a0) = false := decide_eq_false c3
    clear c3
    by_cases c13 : a0 = 42
    · rw [if_pos c13] at H
      have c13b0 : (a0 == 42) = true := beq_iff_eq.mpr c13
      have c13b1 : (a0 != 42) = false := bne_eq_false_iff_eq.mpr c13
      clear c13
      obtain rfl := Option.some.inj H
      go_enter Try.func150, Try.ntmps150
      go_wp2
      go_ret
      exact ⟨by first | rfl | (simp; done) | (simp [*]; done), by repeat (first | exact Drawn0.refl _ | apply Drawn0.step)⟩
    · rw [if_neg c13] at H
      have c13b0 : (a0 == 42) = false := beq_eq_false_iff_ne.mpr c13
      have c13b1 : (a0 != 42) = true := bne_iff_ne.mpr c13
      by_cases c14 : a0 = 63
      · rw [if_pos c14] at H
        have c14b0 : (a0 == 63) = true := beq_iff_eq.mpr c14
        have c14b1 : (a0 != 63) = false := bne_eq_false_iff_eq.mpr c14
        clear c14
        obtain rfl := Option.some.inj H
        go_enter Try.func150, Try.ntmps150
        go_wp2
        go_ret
        exact ⟨by first | rfl | (simp; done) | (simp [*]; done), by repeat (first | exact Drawn0.refl _ | apply Drawn0.step)⟩
      · rw [if_neg c14] at H
        have c14b0 : (a0 == 63) = false := beq_eq_false_iff_ne.mpr c14
        have c14b1 : (a0 != 63) = true := bne_iff_ne.mpr c14
        by_cases c15 : a0 = 61
        · rw [if_pos c15] at H
          have c15b0 : (a0 == 61) = true := beq_iff_eq.mpr c15
          have c15b1 : (a0 != 61) = false := bne_eq_false_iff_eq.mpr c15
          clear c15
          obtain rfl := Option.some.inj H
          go_enter Try.func150, Try.ntmps150
          go_wp2
          go_ret
          exact ⟨by first | rfl | (simp; done) | (simp [*]; done), by repeat (first | exact Drawn0.refl _ | apply Drawn0.step)⟩
        · rw [if_neg c15] at H
          have c15b0 : (a0 == 61) = false := beq_eq_false_iff_ne.mpr c15
          have c15b1 : (a0 != 61) = true := bne_iff_ne.mpr c15
          by_cases c16 : a0 = 43
          · rw [if_pos c16] at H
            have c16b0 : (a0 == 43) = true := beq_iff_eq.mpr c16
            have c16b1 : (a0 != 43) = false := bne_eq_false_iff_eq.mpr c16
            clear c16
            obtain rfl := Option.some.inj H
            go_enter Try.func150, Try.ntmps150
            go_wp2
            go_ret
            exact ⟨by first | rfl | (simp; done) | (simp [*]; done), by repeat (first | exact Drawn0.refl _ | apply Drawn0.step)⟩
          · rw [if_neg c16] at H
            have c16b0 : (a0 == 43) = false := beq_eq_false_iff_ne.mpr c16
            have c16b1 : (a0 != 43) = true := bne_iff_ne.mpr c16
            by_cases c17 : a0 = 60
            · rw [if_pos c17] at H
              have c17b0 : (a0 == 60) = true := beq_iff_eq.mpr c17
              have c17b1 : (a0 != 60) = false := bne_eq_false_iff_eq.mpr c17
              clear c17
              obtain rfl := Option.some.inj H
              go_enter Try.func150, Try.ntmps150
              go_wp2
              go_ret
              exact ⟨by first | rfl | (simp; done) | (simp [*]; done), by repeat (first | exact Drawn0.refl _ | apply Drawn0.step)⟩
            · rw [if_neg c17] at H
              have c17b0 : (a0 == 60) = false := beq_eq_false_iff_ne.mpr c17
              have c17b1 : (a0 != 60) = true := bne_iff_ne.mpr c17
              by_cases c18 : a1 = true
              · subst c18
                have H1 : (some false) = some r := by rw [if_pos rfl] at H; exact H
                clear H
                have H := H1
                clear H1
                obtain rfl := Option.some.inj H
                go_enter Try.func150, Try.ntmps150
                go_wp2
                go_ret
                exact ⟨by first | rfl | (simp; done) | (simp [*]; done), by repeat (first | exact Drawn0.refl _ | apply Drawn0.step)⟩
              · replace c18 := Bool.eq_false_iff.mpr c18
                subst c18
                have H1 : (if a0 ≥ 48 then (if a0 ≤ 57 then (some true) else (some (a0 == 45))) else (some (a0 == 45))) = some r := by rw [if_neg (show ¬ (false = true) by decide)] at H; exact H
                clear H
                have H := H1
                clear H1
                by_cases c19 : a0 ≥ 48
                · rw [if_pos c19] at H
                  have c19b0 : decide (48 ≤ a0) = true := decide_eq_true c19
                  clear c19
                  by_cases c20 : a0 ≤ 57
                  · rw [if_pos c20] at H
                    have c20b0 : decide (a0 ≤ 57) = true := decide_eq_true c20
                    clear c20
                    obtain rfl := Option.some.inj H
                    go_enter Try.func150, Try.ntmps150
                    go_wp2
                    go_ret
                    exact ⟨by first | rfl | (simp; done) | (simp [*]; done), by repeat (first | exact Drawn0.refl _ | apply Drawn0.step)⟩
                  · rw [if_neg c20] at H
                    have c20b0 : decide (a0 ≤ 57) = false := decide_eq_false c20
                    clear c20
                    obtain rfl := Option.some.inj H
                    go_enter Try.func150, Try.ntmps150
                    go_wp2
                    go_ret
                    exact ⟨by first | rfl | (simp; done) | (simp [*]; done), by repeat (first | exact Drawn0.refl _ | apply Drawn0.step)⟩
                · rw [if_neg c19] at H
                  have c19b0 : decide (48 ≤ a0) = false := decide_eq_false c19
                  clear c19
                  obtain rfl := Option.some.inj H
                  go_enter Try.func150, Try.ntmps150
                  go_wp2
                  go_ret
                  exact ⟨by first | rfl | (simp; done) | (simp [*]; done), by repeat (first | exact Drawn0.refl _ | apply Drawn0.step)⟩

end Go.Proofs.Yteonncnhhccgeaa.Q
end
section
namespace Go.Proofs.Yteonncnhhccgeaa
open Go.RowKit Go.Proofs.YteonncnhhccgeaaW.PrintWords Go.Proofs.Yteonncnhhccgeaa.Q
set_option linter.unusedVariables false
theorem ev_name (a : ByteArray) : spec_l1Name.f a = some ((1 : Int), a, (0 : Int), ([] : List Int), ([] : List Fm)) := rfl
theorem ev_some {s : List Int} (hs : Bts s) : ∀ d : Nat, d ≤ 4 → ∀ p : Nat, p + Bn d ≤ 900000 →
    ∃ (x : Fm) (q : Nat), q ≤ p + Bn d ∧ x.tot ≤ Bn d ∧ Ev (fun k => spec_l1Some.f k s (p : Int) (d : Int)) (x.f0, x.f1, x.f2, x.f3, x.f4, (q : Int)) := by
  have leaf : ∀ (d : Nat) (p : Nat), p ≤ 900002 → ∃ (x : Fm) (q : Nat), q ≤ p + 2 ∧ x.tot ≤ 13 ∧ Ev (fun k => spec_l1Some.j0 k (d : Int) true s (p : Int)) (x.f0, x.f1, x.f2, x.f3, x.f4, (q : Int)) := by
    intro d p hp
    obtain ⟨v, hv, e1⟩ := ev_pick hs p (by omega) 4 (by omega)
    by_cases h0 : v = 0
    · obtain ⟨n, hn, e2⟩ := ev_num hs (p + 1) (by omega) [0, 1, 2, 7, 42, 999] (by simp) (by simp)
      refine ⟨⟨2, ⟨#[]⟩, n, [], []⟩, p + 2, by omega, by simp [Fm.tot, totL, ByteArray.size], ?_⟩
      refine Ev.step (fun k => by rw [spec_l1Some.j0]) (Ev.pos rfl (Ev.bind e1 (Ev.pos h0 (Ev.bind e2 ?_))))
      exact Ev.now _
    · obtain ⟨n, hn, e2⟩ := ev_of hs (p + 1) (by omega) nms (by simp) (by simp)
      refine ⟨⟨1, n, 0, [], []⟩, p + 2, by omega, ?_, ?_⟩
      rotate_left
      · refine Ev.step (fun k => by rw [spec_l1Some.j0]) (Ev.pos rfl (Ev.bind e1 (Ev.neg h0 (Ev.bind e2 (Ev.bind (g := fun _ => _) (Ev.some (ev_name n)) ?_)))))
        exact Ev.now _
      · have := names_small n hn
        simp [Fm.tot, totL]; omega
  intro d
  induction d with
  | zero =>
    intro hd p hp
    obtain ⟨x, q, h1, h2, h3⟩ := leaf 0 p (by omega)
    refine ⟨x, q, by have : Bn 0 = 13 := rfl; omega, h2, Ev.step (fun k => by rw [spec_l1Some.f]) ?_⟩
    exact Ev.pos rfl h3
  | succ d ih =>
    intro hd p hp
    have hB := Bn_pos d
    have hBs : Bn (d + 1) = 13 + 3 * (Bn d + 1) := rfl
    have hB4 := Bn_le (d := d) (by omega)
    obtain ⟨v, hv, e1⟩ := ev_pick hs p (by omega) 3 (by omega)
    cases hz : (v == 0) with
    | true =>
      obtain ⟨x, q, h1, h2, h3⟩ := leaf (d + 1) (p + 1) (by omega)
      refine ⟨x, q, by have : Bn (d + 1) = 13 + 3 * (Bn d + 1) := rfl; omega, by have : Bn (d + 1) = 13 + 3 * (Bn d + 1) := rfl; omega, Ev.step (fun k => by rw [spec_l1Some.f]) (Ev.neg (by omega) (Ev.bind e1 ?_))⟩
      dsimp only
      rw [hz]
      exact h3
    | false =>
      obtain ⟨n, hn, e2⟩ := ev_pick hs (p + 1) (by omega) 4 (by omega)
      obtain ⟨m, rfl⟩ := Int.eq_ofNat_of_zero_le (hn (by omega)).1
      have hm : m ≤ 3 := by have := (hn (by omega)).2; omega
      obtain ⟨r, ⟨x, q, rfl, h1, h2⟩, hr⟩ := ev_loop (L := fun k (t : Int × Int × List Fm) => spec_l1Some.l0 k ((d + 1 : Nat) : Int) t.1 s t.2.1 3 ⟨#[]⟩ 0 t.2.2)
        (fun i t => ∃ q : Nat, t.1 = ((m - i : Nat) : Int) ∧ t.2.1 = (q : Int) ∧ q ≤ p + 2 + i * Bn d ∧ totL t.2.2 ≤ i * (Bn d + 1) ∧ t.2.2.length = i) m
        (fun r => ∃ (x : Fm) (q : Nat), r = (x.f0, x.f1, x.f2, x.f3, x.f4, (q : Int)) ∧ q ≤ p + 2 + m * Bn d ∧ x.tot ≤ m * (Bn d + 1)) (by
          rintro i ⟨t1, t2, t3⟩ hi ⟨q, rfl, rfl, hq, ht, hl⟩
          dsimp only at ht hl hq
          have hi3 : i * Bn d ≤ 2 * Bn d := Nat.mul_le_mul_right _ (by omega)
          obtain ⟨y, q', h1, h2, h3⟩ := ih (by omega) q (by omega)
          refine ⟨(((m - (i + 1) : Nat) : Int), (q' : Int), t3 ++ [y]), ⟨q', rfl, rfl, ?_, ?_, by simp [hl]⟩, fun r hr => ?_⟩
          · rw [Nat.succ_mul]; omega
          · rw [totL_append, Nat.succ_mul]; simp only [totL]; omega
          · refine Ev.step (fun k => by rw [spec_l1Some.l0]) (Ev.pos (by show ((m - i : Nat) : Int) > 0; omega) ?_)
            rw [show wrap64 (((d + 1 : Nat) : Int) - 1) = (d : Int) from by rw [wr_in (by omega) (by omega)]; omega]
            refine Ev.bind h3 (Ev.pos (by show t3.length < _; change t3.length = i at hl; omega) ?_)
            dsimp only
            rw [Fm.eta, show wrap64 (((m - i : Nat) : Int) - 1) = ((m - (i + 1) : Nat) : Int) from by rw [wr_in (by omega) (by omega)]; omega]
            exact hr) (by
          rintro ⟨t1, t2, t3⟩ ⟨q, rfl, rfl, hq, ht, hl⟩
          refine ⟨_, ⟨⟨3, ⟨#[]⟩, 0, [], t3⟩, q, rfl, hq, by simp [Fm.tot, ByteArray.size]; omega⟩, Ev.step (fun k => by rw [spec_l1Some.l0]) (Ev.neg (by simp) (Ev.now _))⟩)
        (((m : Nat) : Int), ((p + 2 : Nat) : Int), []) ⟨p + 2, by simp, rfl, by omega, by simp [totL], rfl⟩
      have hm3 : m * Bn d ≤ 3 * Bn d := Nat.mul_le_mul_right _ hm
      have hm4 : m * (Bn d + 1) ≤ 3 * (Bn d + 1) := Nat.mul_le_mul_right _ hm
      refine ⟨x, q, by have : Bn (d + 1) = 13 + 3 * (Bn d + 1) := rfl; omega, by have : Bn (d + 1) = 13 + 3 * (Bn d + 1) := rfl; omega, Ev.step (fun k => by rw [spec_l1Some.f]) (Ev.neg (by omega) (Ev.bind e1 ?_))⟩
      dsimp only
      rw [hz]
      refine Ev.step (fun k => by rw [spec_l1Some.j0]) (Ev.neg (by simp) (Ev.bind e2 ?_))
      exact hr
end Go.Proofs.Yteonncnhhccgeaa
end
section
namespace Go.Proofs.Yteonncnhhccgeaa
open Go.RowKit Go.Proofs.YteonncnhhccgeaaW.PrintWords Go.Proofs.YteonncnhhccgeaaW.PrintLast Go.Proofs.YteonncnhhccgeaaW.PrintMore
set_option linter.unusedVariables false
set_option linter.unusedSimpArgs false
/-- The form x reads in w, and in every world in which the blocks from lo on stand as_ in w. -/
structure FmS (lo : Nat) (w : World) (x : Fm) (A3 : Option Addr) (c3 : Nat) (A4 : Option Addr) (c4 : Nat) : Prop where mk ::
  out : ∀ W : World, (∀ b, lo ≤ b → b < w.heap.size → W.heap[b]? = w.heap[b]?) → FmIn W x A3 c3 A4 c4
theorem FmS.now {lo : Nat} {w : World} {x : Fm} {A3 : Option Addr} {c3 : Nat} {A4 : Option Addr} {c4 : Nat} (h : FmS lo w x A3 c3 A4 c4) : FmIn w x A3 c3 A4 c4 := h.out w (fun _ _ _ => rfl)
theorem FmS.move {lo : Nat} {w W : World} {x : Fm} {A3 : Option Addr} {c3 : Nat} {A4 : Option Addr} {c4 : Nat} (h : FmS lo w x A3 c3 A4 c4) (hs : w.heap.size ≤ W.heap.size) (hm : ∀ b, lo ≤ b → b < w.heap.size → W.heap[b]? = w.heap[b]?) : FmS lo W x A3 c3 A4 c4 :=
  ⟨fun W' h' => h.out W' (fun b h1 h2 => (h' b h1 (Nat.lt_of_lt_of_le h2 hs)).trans (hm b h1 h2))⟩
theorem FmS.later {lo : Nat} {w W : World} {x : Fm} {A3 : Option Addr} {c3 : Nat} {A4 : Option Addr} {c4 : Nat} (h : FmS lo w x A3 c3 A4 c4) (hb : Below w.heap.size w W) : FmS lo W x A3 c3 A4 c4 := h.move hb.size (fun b _ hlt => hb.block b hlt)
theorem FmS.keep {lo g : Nat} {w W : World} {x : Fm} {A3 : Option Addr} {c3 : Nat} {A4 : Option Addr} {c4 : Nat} (h : FmS lo w x A3 c3 A4 c4) (hk : KeepBut w W g none) (hg : g < lo) : FmS lo W x A3 c3 A4 c4 := h.move hk.1 (fun b h1 hlt => hk.2 b hlt (by omega) (by simp))
theorem FmS.low {lo lo' : Nat} {w : World} {x : Fm} {A3 : Option Addr} {c3 : Nat} {A4 : Option Addr} {c4 : Nat} (h : FmS lo w x A3 c3 A4 c4) (hl : lo' ≤ lo) : FmS lo' w x A3 c3 A4 c4 := ⟨fun W hW => h.out W (fun b h1 h2 => hW b (Nat.le_trans hl h1) h2)⟩
/-- A form and another value are handed back; the form lies in new memory. -/
def GetFS (w : World) (x : Fm) (v : Value) (e : Ending) (w' : World) : Prop := ∃ A3 c3 A4 c4, e = .returned (.tuple #[.agg #[.int .i64 x.f0, .string x.f1, .int .i64 x.f2, .slice A3 x.f3.length c3, .slice A4 x.f4.length c4], v]) ∧ FmS w.heap.size w' x A3 c3 A4 c4 ∧ Below w.heap.size w w'
theorem GetFS.V {w : World} {x : Fm} {v : Value} {e : Ending} {w' : World} (h : GetFS w x v e w') : GetFV w x v e w' := by
  obtain ⟨A3, c3, A4, c4, he, hs, hb⟩ := h
  exact ⟨A3, c3, A4, c4, he, hs.now, hb⟩
theorem NewF.toS {B : Nat} {w : World} {x : Fm} {v3 v4 : Value} (h : NewF B w x v3 v4) : ∃ A3 c3 A4 c4, v3 = .slice A3 x.f3.length c3 ∧ v4 = .slice A4 x.f4.length c4 ∧ FmS B w x A3 c3 A4 c4 := by
  obtain ⟨fp, ht, _, hge⟩ := h
  obtain ⟨A3, c3, A4, c4, rfl, rfl, _⟩ := ht.In
  refine ⟨A3, c3, A4, c4, rfl, rfl, ⟨fun W hW => ?_⟩⟩
  obtain ⟨B3, d3, B4, d4, e3, e4, hi⟩ := (ht.move (w1 := W) x (fun b hb => hW b (hge b hb) (ht.lt x b hb))).In
  injection e3 with a1 _ a2
  injection e4 with a3 _ a4
  subst a1 a2 a3 a4
  exact hi
theorem FmS.ofR {B : Nat} {w : World} {x : Fm} {ok ok' : Nat → Prop} {v3 v4 : Value} (h3 : kI.R 3 w B ok v3 x.f3) (h4 : kF.R 31 w B ok' v4 x.f4) : ∃ A3 c3 A4 c4, v3 = .slice A3 x.f3.length c3 ∧ v4 = .slice A4 x.f4.length c4 ∧ FmS B w x A3 c3 A4 c4 := by
  obtain ⟨A3, c3, A4, c4, rfl, rfl, _⟩ := FmIn.ofR h3 h4
  refine ⟨A3, c3, A4, c4, rfl, rfl, ⟨fun W hW => ?_⟩⟩
  have k3 := Kd.R_move (w1 := W) (Kd.R_bound h3) (fun k hk => hW k hk.2.1 hk.2.2.1)
  have k4 := Kd.R_move (w1 := W) (Kd.R_bound h4) (fun k hk => hW k hk.2.1 hk.2.2.1)
  obtain ⟨B3, d3, B4, d4, e3, e4, hi⟩ := FmIn.ofR k3 k4
  injection e3 with a1 _ a2
  injection e4 with a3 _ a4
  subst a1 a2 a3 a4
  exact hi
theorem Dr.ltW {w0 w W : World} {g : Nat} {s : List Int} {q : Int} (h : Dr w0 w g s q W) : g < W.heap.size := Nat.lt_of_lt_of_le h.lt h.size
/-- A form is drawn: it lies in new memory, and the source stands at q. -/
def DrGet (w0 : World) (g : Nat) (s : List Int) (q : Nat) (y : Fm) (w : World) (e : Ending) (w' : World) : Prop :=
  ∃ A3 c3 A4 c4, e = .returned (.agg #[.int .i64 y.f0, .string y.f1, .int .i64 y.f2, .slice A3 y.f3.length c3, .slice A4 y.f4.length c4]) ∧ FmS w.heap.size w' y A3 c3 A4 c4 ∧ IsRd w0 w' g s (q : Int) ∧ Below w0.heap.size w0 w' ∧ KeepBut w w' g none
theorem DrPost.get {w0 : World} {g : Nat} {s : List Int} {q : Nat} {y : Fm} {w : World} {e : Ending} {w' : World} (h : DrPost w0 g s (q : Int) y w e w') : DrGet w0 g s q y w e w' := by
  obtain ⟨v3, v4, rfl, hn, hi, hb, hk⟩ := h
  obtain ⟨A3, c3, A4, c4, rfl, rfl, hs⟩ := hn.toS
  exact ⟨A3, c3, A4, c4, rfl, hs, hi, hb, hk⟩
def SomeOk (s : List Int) (d : Nat) (p : Nat) (y : Fm) (q : Nat) : Prop := ∀ (g : Nat) (w0 w : World), IsRd w0 w g s (p : Int) → Below w0.heap.size w0 w → Calls Try.prog 112 #[.pointer (some ⟨g, 0, none⟩), .int .i64 (d : Int)] w (DrGet w0 g s q y w)
theorem some_ex {s : List Int} (hs : Bts s) (d : Nat) (hd : d ≤ 4) (p : Nat) (hp : p + Bn d ≤ 900000) : ∃ (y : Fm) (q : Nat), q ≤ p + Bn d ∧ y.tot ≤ Bn d ∧ SomeOk s d p y q := by
  obtain ⟨y, q, h1, h2, h3⟩ := ev_some hs d hd p hp
  obtain ⟨k, hk⟩ := h3.rounds
  refine ⟨y, q, h1, h2, fun g w0 w hi hb => (Q.spec_l1Some.calls k g s p d _ _ _ _ _ _ w0 w hi hb hk).mono ?_⟩
  rintro e w' ⟨v3, v4, rfl, r3, r4, hi', hb', hk'⟩
  obtain ⟨A3, c3, A4, c4, rfl, rfl, hs'⟩ := FmS.ofR r3 r4
  exact ⟨A3, c3, A4, c4, rfl, hs', hi', hb', hk'⟩
/-- num over a literal in its own block. -/
theorem num_lit {s : List Int} {l : List Int} {cs : Array Value} (hcs : cs.toList = l.map (Value.int .i64)) (hl : l.length ≤ 1000) {p : Nat} {n : Int} (h : Ev (fun k => Q.spec_l15Rd_num.f k s (p : Int) l) (n, ((p + 1 : Nat) : Int))) (g : Nat) (w0 W : World) (hi : IsRd w0 W g s (p : Int)) (hb : Below w0.heap.size w0 W) :
    Calls Try.prog 126 #[.pointer (some ⟨g, 0, none⟩), .slice (some ⟨W.heap.size, 0, none⟩) l.length l.length] (W.alloc (.cells cs 3 (0, 0))) (fun e w' => e = .returned (.int .i64 n) ∧ IsRd w0 w' g s ((p + 1 : Nat) : Int) ∧ Below w0.heap.size w0 w' ∧ KeepBut W w' g none) := by
  obtain ⟨k, hk⟩ := h.rounds
  have hlt := Q.IsS104.lt hi
  refine (Q.spec_l15Rd_num.calls k g s _ (some ⟨W.heap.size, 0, none⟩) _ l n _ w0 _ (Q.IsS104.below hi (below_new _ _)) (below_step hb (below_new _ _)) (reads_block (blk_new W _) hl hcs) (Nat.le_refl _) (fun ad e _ => by cases e; show W.heap.size ≠ g; omega) hk).mono ?_
  rintro e w' ⟨rfl, h1, h2, h3⟩
  exact ⟨rfl, h1, h2, (KeepBut.of_below (below_new W _) g none).trans h3 (.inl rfl)⟩
/-- of over a literal in its own block. -/
theorem of_lit {s : List Int} {l : List ByteArray} {cs : Array Value} (hcs : cs.toList = l.map Value.string) (hl : l.length ≤ 1000) {p : Nat} {n : ByteArray} (h : Ev (fun k => Q.spec_l15Rd_of.f k s (p : Int) l) (n, ((p + 1 : Nat) : Int))) (g : Nat) (w0 W : World) (hi : IsRd w0 W g s (p : Int)) (hb : Below w0.heap.size w0 W) :
    Calls Try.prog 131 #[.pointer (some ⟨g, 0, none⟩), .slice (some ⟨W.heap.size, 0, none⟩) l.length l.length] (W.alloc (.cells cs 9 (0, 0))) (fun e w' => e = .returned (.string n) ∧ IsRd w0 w' g s ((p + 1 : Nat) : Int) ∧ Below w0.heap.size w0 w' ∧ KeepBut W w' g none) := by
  obtain ⟨k, hk⟩ := h.rounds
  have hlt := Q.IsS104.lt hi
  refine (Q.spec_l15Rd_of.calls k g s _ (some ⟨W.heap.size, 0, none⟩) _ l n _ w0 _ (Q.IsS104.below hi (below_new _ _)) (below_step hb (below_new _ _)) (reads_strs (blk_new W _) hl hcs) (Nat.le_refl _) (fun ad e _ => by cases e; show W.heap.size ≠ g; omega) hk).mono ?_
  rintro e w' ⟨rfl, h1, h2, h3⟩
  exact ⟨rfl, h1, h2, (KeepBut.of_below (below_new W _) g none).trans h3 (.inl rfl)⟩
/-- A pick. -/
theorem pick_at {s : List Int} {p : Nat} {n v : Int} (h : Ev (fun k => Q.spec_l15Rd_pick.f k s (p : Int) n) (v, ((p + 1 : Nat) : Int))) (g : Nat) (w0 W : World) (hi : IsRd w0 W g s (p : Int)) (hb : Below w0.heap.size w0 W) :
    Calls Try.prog 79 #[.pointer (some ⟨g, 0, none⟩), .int .i64 n] W (fun e w' => e = .returned (.int .i64 v) ∧ IsRd w0 w' g s ((p + 1 : Nat) : Int) ∧ Below w0.heap.size w0 w' ∧ KeepBut W w' g none) := by
  obtain ⟨k, hk⟩ := h.rounds
  refine (Q.spec_l15Rd_pick.calls k g s _ n v _ w0 _ hi hb hk).mono ?_
  rintro e w' ⟨rfl, h1, h2, h3⟩
  exact ⟨rfl, h1, h2, h3⟩
/-- The source is opened. -/
theorem open_at (l : List Int) (hl : ∀ z, z ∈ l → 0 ≤ z ∧ z < 256) : ∃ s, Bts s ∧ ∀ (A : Option Addr) (c : Nat) (w0 w : World), Below w0.heap.size w0 w → (Kd.int .u8).C w0 A l.length l → l.length ≤ c →
    Calls Try.prog 78 #[.slice A l.length c] w (fun e w' => ∃ g, e = .returned (.pointer (some ⟨g, 0, none⟩)) ∧ IsRd w0 w' g s ((0 : Nat) : Int) ∧ Below w0.heap.size w0 w' ∧ Below w.heap.size w w') := by
  obtain ⟨s, hs, he⟩ := ev_open l hl
  refine ⟨s, hs, fun A c w0 w hb hr hc => ?_⟩
  exact (Q.spec_l15Open.calls A c l s 0 w0 w hb hr hc he).mono fun e w' h => h
end Go.Proofs.Yteonncnhhccgeaa
end
section
namespace Go.Proofs.Yteonncnhhccgeaa
open Go.RowKit Go.Proofs.YteonncnhhccgeaaW.PrintWords Go.Proofs.YteonncnhhccgeaaW.PrintLast Go.Proofs.YteonncnhhccgeaaW.PrintMore
set_option linter.unusedVariables false
set_option linter.unusedSimpArgs false
set_option maxHeartbeats 4000000 in
set_option maxRecDepth 100000 in
theorem l2Case_ex (l : List Int) (hl : ∀ z, z ∈ l → 0 ≤ z ∧ z < 256) : ∃ (x : Fm) (n : Int), x.tot ≤ 7000 ∧ 0 ≤ n ∧ n ≤ 100 ∧ ∀ (A : Option Addr) (c : Nat) (w : World), (Kd.int .u8).C w A l.length l → l.length ≤ c → Calls Try.prog 84 #[.slice A l.length c] w (GetFS w x (.int .i64 n)) := by
  obtain ⟨s, hs, hopen⟩ := open_at l hl
  obtain ⟨n0, hn0, e1⟩ := ev_num hs 0 (by omega) [3, 2, 4] (by simp) (by simp)
  obtain ⟨d, rfl, hd⟩ : ∃ d : Nat, n0 = (d : Int) ∧ d ≤ 4 := by
    simp only [List.mem_cons, List.not_mem_nil, or_false] at hn0
    rcases hn0 with rfl | rfl | rfl
    · exact ⟨3, rfl, by omega⟩
    · exact ⟨2, rfl, by omega⟩
    · exact ⟨4, rfl, by omega⟩
  have hB := Bn_le hd
  have hsc : ∀ n : Int, n ∈ ([1, 2, 3, 5, 99, 0, 100] : List Int) → 0 ≤ n ∧ n ≤ 100 := by
    intro n hn
    simp only [List.mem_cons, List.not_mem_nil, or_false] at hn
    omega
  obtain ⟨x1, q1, a1, b1, c1⟩ := some_ex hs d hd 1 (by omega)
  have s1 := sizes_totL x1
  obtain ⟨x2, q2, a2, b2, f2, _, c2⟩ := dress_ex hs x1 (by omega) q1 (by omega)
  obtain ⟨v, hv, e2⟩ := ev_pick hs q2 (by omega) 16 (by omega)
  obtain ⟨x3, q3, a3, b3, f3, c3⟩ := mutate_ex hs x2 (by omega) (q2 + 1) (by omega)
  obtain ⟨x4, q4, a4, b4, f4, c4⟩ := mutate_ex hs x3 (by omega) q3 (by omega)
  obtain ⟨y, q5, hy, hq5, hyt⟩ : ∃ y q5, (if v = 0 then x4 else x2) = y ∧ (if v = 0 then q4 else q2 + 1) = q5 ∧ y.tot ≤ 7000 := by
    refine ⟨_, _, rfl, rfl, ?_⟩
    split <;> omega
  have hq5' : q5 ≤ 999000 := by rw [← hq5]; split <;> omega
  obtain ⟨m, hm, e3⟩ := ev_num hs q5 (by omega) [1, 2, 3, 5, 99, 0, 100] (by simp) (by simp)
  refine ⟨y, m, hyt, (hsc m hm).1, (hsc m hm).2, fun A c w hr hc => ?_⟩
  have HO := Lib.hid hopen
  have HE1 := Lib.hid e1
  have HS1 := Lib.hid c1
  have HS2 := Lib.hid c2
  have HE2 := Lib.hid e2
  have HS3 := Lib.hid c3
  have HS4 := Lib.hid c4
  have HY := Lib.hid hy
  have HQ := Lib.hid hq5
  have HE3 := Lib.hid e3
  clear hopen e1 c1 c2 e2 c3 c4 hy hq5 e3 hs hn0 hsc hm hv a1 a2 a3 a4 b1 b2 b3 b4 f2 f3 f4 s1 hB hq5' hyt
  go_enter Try.func84, Try.ntmps84
  go_wp2_with fail
  refine (HO.out A c w _ (below_new _ _) hr hc).mono ?_
  rintro e w2 ⟨g, rfl, hi, hb, hb2⟩
  obtain ⟨kr, hbw⟩ := one_new hb2
  have HD := Lib.hid (Dr.new hi hb)
  have HG := Lib.hid (show g ≠ w.heap.size from Q.IsS104.ne_blk hi kr (by decide))
  have HKR := Lib.hid kr
  have HW2 := Lib.hid (show w.heap.size < w2.heap.size from blk_lt kr)
  clear hi hb hb2 kr hbw
  go_wp2_with fail
  refine (num_lit (l := [3, 2, 4]) rfl (by simp) HE1.out g w w2 HD.out.is HD.out.b).mono ?_
  rintro e w3 ⟨rfl, hi, hb, hk⟩
  replace HD := Lib.hid (HD.out.call hi hb hk)
  clear hi hb hk
  go_wp2_with fail
  refine (HS1.out g w w3 HD.out.is HD.out.b).mono ?_
  rintro e w4 ⟨A3, c3, A4, c4, rfl, hf, hi, hb, hk⟩
  have HF := Lib.hid hf.now
  replace HD := Lib.hid (HD.out.call hi hb hk)
  clear hi hb hk hf
  go_wp2_with fail
  refine (HS2.out g A3 c3 A4 c4 w w4 HD.out.is HD.out.b HF.out).mono ?_
  intro e w5 hp
  obtain ⟨B3, d3, B4, d4, rfl, hf, hi, hb, hk⟩ := hp.get
  have HF2 := Lib.hid hf
  have HL2 := Lib.hid (show g < w4.heap.size from HD.out.ltW)
  have HW5 := Lib.hid (show w2.heap.size ≤ w5.heap.size from Nat.le_trans HD.out.size hk.1)
  replace HD := Lib.hid (HD.out.call hi hb hk)
  clear hi hb hk hf hp HF
  go_wp2_with fail
  refine (pick_at HE2.out g w _ (HD.out.later (below_new _ _)).is (HD.out.later (below_new _ _)).b).mono ?_
  rintro e w6 ⟨rfl, hi, hb, hk⟩
  have HD5 := Lib.hid ((HD.out.later (below_new _ (.cells #[.int .i64 x2.f0, .string x2.f1, .int .i64 x2.f2, .slice B3 x2.f3.length d3, .slice B4 x2.f4.length d4] 31))).call hi hb hk)
  have hk5 : w6.heap[w5.heap.size]? = some (.cells #[.int .i64 x2.f0, .string x2.f1, .int .i64 x2.f2, .slice B3 x2.f3.length d3, .slice B4 x2.f4.length d4] 31) := hk.blk (blk_new w5 _) (by have := HL2.out; have := HD.out.size; have := HD.out.lt; have := HW5.out; omega) (by simp)
  have HK5 := Lib.hid hk5
  have HF6 := Lib.hid ((HF2.out.later (below_new _ (.cells #[.int .i64 x2.f0, .string x2.f1, .int .i64 x2.f2, .slice B3 x2.f3.length d3, .slice B4 x2.f4.length d4] 31))).keep hk HL2.out)
  clear hi hb hk hk5
  go_upto_if 17 with fail
  (try simp only [Act.put, List.setIfInBounds_toArray, List.set_cons_zero, List.set_cons_succ])
  go_cut [] (fun wc => ∃ (C3 : Option Addr) (j3 : Nat) (C4 : Option Addr) (j4 : Nat), Aside0 (Dr w w2 g s (q5 : Int) wc) ∧ Aside0 (wc.heap[w5.heap.size]? = some (.cells #[.int .i64 y.f0, .string y.f1, .int .i64 y.f2, .slice C3 y.f3.length j3, .slice C4 y.f4.length j4] 31)) ∧ Aside0 (FmS (g + 1) wc y C3 j3 C4 j4))
  case first =>
    obtain ⟨p0, p1, p2, p3, p4⟩ := fm_cells HK5.out
    obtain ⟨o0, o1, o2, o3, o4⟩ := fm_free HK5.out
    by_cases hv : v = 0
    · have t1 : (v == 0) = true := beq_iff_eq.mpr hv
      have HV := Lib.hid hv
      clear hv
      go_wp2_with fail
      refine (HS3.out g B3 d3 B4 d4 w w6 HD5.out.is HD5.out.b HF6.out.now).mono ?_
      intro e w7 hp
      obtain ⟨C3, j3, C4, j4, rfl, hf, hi, hb, hk⟩ := hp.get
      have HF7 := Lib.hid hf.now
      have HK7 := Lib.hid (show w7.heap[w5.heap.size]? = some (.cells #[.int .i64 x2.f0, .string x2.f1, .int .i64 x2.f2, .slice B3 x2.f3.length d3, .slice B4 x2.f4.length d4] 31) from hk.blk HK5.out (by have := HD.out.lt; have := HW5.out; omega) (by simp))
      have HD7 := Lib.hid (HD5.out.call hi hb hk)
      clear hi hb hk hf hp p0 p1 p2 p3 p4 o0 o1 o2 o3 o4
      go_wp2_with fail
      refine (HS4.out g C3 j3 C4 j4 w w7 HD7.out.is HD7.out.b HF7.out).mono ?_
      intro e w8 hp
      obtain ⟨E3, k3, E4, k4, rfl, hf, hi, hb, hk⟩ := hp.get
      have HK8 := Lib.hid (show w8.heap[w5.heap.size]? = some (.cells #[.int .i64 x2.f0, .string x2.f1, .int .i64 x2.f2, .slice B3 x2.f3.length d3, .slice B4 x2.f4.length d4] 31) from hk.blk HK7.out (by have := HD.out.lt; have := HW5.out; omega) (by simp))
      have HD8 := Lib.hid (HD7.out.call hi hb hk)
      obtain ⟨p0, p1, p2, p3, p4⟩ := fm_cells HK8.out
      obtain ⟨o0, o1, o2, o3, o4⟩ := fm_free HK8.out
      obtain ⟨st1, st2, st3⟩ := st5 HK8.out (.int .i64 x4.f0) (.string x4.f1) (.int .i64 x4.f2) (.slice E3 x4.f3.length k3) (.slice E4 x4.f4.length k4)
      have HR := Lib.hid (And.intro (HD8.out.put5 (b := w5.heap.size) (HW5.out) (.int .i64 x4.f0) (.string x4.f1) (.int .i64 x4.f2) (.slice E3 x4.f3.length k3) (.slice E4 x4.f4.length k4)) (And.intro st1 (show FmS w7.heap.size _ x4 E3 k3 E4 k4 from hf.move (st3 0 w8 (Below.refl 0 w8) (Nat.zero_le _)).size (fun b hb hlt => st2 b (by have := blk_lt HK7.out; omega)))))
      have HL7 := Lib.hid (show g + 1 ≤ w7.heap.size from Nat.succ_le_of_lt HD7.out.ltW)
      clear st1 st2 st3 hi hb hk hf hp
      go_wp2_with fail
      go_meet
      case rel =>
        have hy := HY.out
        have hq := HQ.out
        rw [if_pos HV.out] at hy hq
        rw [← hy, ← hq]
        exact ⟨_, _, _, _, ⟨HR.out.1⟩, ⟨HR.out.2.1⟩, ⟨⟨fun W hW => HR.out.2.2.out W (fun b h1 h2 => hW b (by have := HL7.out; omega) h2)⟩⟩⟩
    · have t1 : (v == 0) = false := beq_eq_false_iff_ne.mpr hv
      have HV := Lib.hid hv
      clear hv
      go_wp2_with fail
      go_meet
      case rel =>
        have hy := HY.out
        have hq := HQ.out
        rw [if_neg HV.out] at hy hq
        rw [← hy, ← hq]
        exact ⟨_, _, _, _, ⟨HD5.out⟩, ⟨HK5.out⟩, ⟨⟨fun W hW => HF6.out.out W (fun b h1 h2 => hW b (by have := HL2.out; omega) h2)⟩⟩⟩
  case rest =>
    obtain ⟨C3, j3, C4, j4, HDc, HKc, HFc⟩ := hcut
    obtain ⟨p0, p1, p2, p3, p4⟩ := fm_cells HKc.out
    have HYF := HFc
    have hr0 : wc.heap[w.heap.size]? = some (.cells #[.int .i64 0, .string ⟨#[]⟩, .int .i64 0, .slice none 0 0, .slice none 0 0] 31) := HDc.out.kp.blk HKR.out (fun e => HG.out e.symm) (by simp)
    obtain ⟨z0, z1, z2, z3, z4⟩ := fm_cells hr0
    obtain ⟨f0, f1, f2, f3, f4⟩ := fm_free hr0
    have hn1 : w5.heap.size ≠ w.heap.size := by have := HW2.out; have := HW5.out; omega
    have hn2 : w.heap.size ≠ w5.heap.size := fun e => hn1 e.symm
    have HR0 := Lib.hid hr0
    clear hr0
    go_wp2_with fail
    have HDD := Lib.hid (HDc.out.later (below_drew (Below.refl _ _)))
    have HKD := Lib.hid (blk_drew HKc.out)
    have HRD := Lib.hid (blk_drew HR0.out)
    have HFD := Lib.hid (HFc.out.later (below_drew (Below.refl _ _)))
    refine start_ (n := 6) (S := (fun W : World => W.cell? ⟨w5.heap.size, 0, none⟩ = some (.int .i64 y.f0) ∧ W.cell? ⟨w5.heap.size, 1, none⟩ = some (.string y.f1) ∧ W.cell? ⟨w5.heap.size, 2, none⟩ = some (.int .i64 y.f2) ∧ W.cell? ⟨w5.heap.size, 3, none⟩ = some (.slice C3 y.f3.length j3) ∧ W.cell? ⟨w5.heap.size, 4, none⟩ = some (.slice C4 y.f4.length j4))) (ds := []) #[false, false, false, false, false, false] (by kernel_rfl) rfl rfl (fm_cells HKD.out) (fun hHeld => ?_)
    clear p0 p1 p2 p3 p4 z0 z1 z2 z3 z4 f0 f1 f2 f3 f4
    generalize wc.drew = wd at HDD HKD HRD HFD hHeld ⊢
    refine take_ (i := 0) (N := some 23) (v := ?_) (a' := ?_) #[true, false, false, false, false, false] rfl rfl (by kernel_rfl) (fun _ _ _ h => h) (Or.inl ⟨by rfl, ?_⟩) hHeld ?_ ?_
    rotate_left
    · rintro w' ⟨s0, s1, s2, s3, s4⟩
      go_simp
      with_reducible rfl
    rotate_left
    · simp only [Act.put, List.setIfInBounds_toArray, List.set_cons_zero, List.set_cons_succ, i64_w, i32_w]
      rfl
    refine pure_ (i := 1) (N := some 24) (v := ?_) (a' := ?_) #[true, true, false, false, false, false] rfl rfl (by kernel_rfl) (fun _ _ _ h => h) (Or.inl ⟨by rfl, ?_⟩) ?_ ?_
    rotate_left
    · intro w'
      go_simp
      with_reducible rfl
    rotate_left
    · simp only [Act.put, List.setIfInBounds_toArray, List.set_cons_zero, List.set_cons_succ, i64_w, i32_w]
      rfl
    refine one_ (i := 2) (N := some 25) #[true, true, true, false, false, false] rfl rfl (by kernel_rfl) (by decide) (fun K hK => ?_)
    refine value_ (w1 := ?_) (v := ?_) (by rfl) rfl ?_ ?_
    rotate_left 2
    · go_simp
      constructor
      · rfl
      · rfl
    refine hK.out _ _ (fm_cells (blk_alloc HKD.out _)) (fun hHeld => ?_)
    clear hK K
    refine norm_ (a' := ?_) ?_ ?_
    rotate_left
    · show Act.put _ (some 25) _ = _
      simp only [Act.put, List.setIfInBounds_toArray, List.set_cons_zero, List.set_cons_succ, i64_w, i32_w]
      rfl
    refine one_ (i := 3) (N := some 26) #[true, true, true, true, false, false] rfl rfl (by kernel_rfl) (by decide) (fun K hK => ?_)
    refine goes_ Try.func126 (by kernel_rfl) rfl #[.pointer (some ⟨g, 0, none⟩), .slice (some ⟨wd.heap.size, 0, none⟩) 7 7] (by rfl) rfl rfl (by (try simp only [List.map_toArray, List.map_cons, List.map_nil]); first | done | rfl) ?_
    refine (num_lit (l := [1, 2, 3, 5, 99, 0, 100]) rfl (by simp) HE3.out g w wd HDD.out.is HDD.out.b).mono ?_
    rintro e w9 ⟨rfl, hi, hb, hk⟩
    refine ⟨_, rfl, ?_⟩
    have HK9 := Lib.hid (hk.blk HKD.out (by have := HDc.out.lt; have := HW5.out; omega) (by simp))
    have HR9 := Lib.hid (hk.blk HRD.out (fun e => HG.out e.symm) (by simp))
    have HD9 := Lib.hid (HDD.out.call hi hb hk)
    have HF9 := Lib.hid (HFD.out.keep hk (Nat.lt_succ_self g))
    clear hi hb hk
    refine hK.out _ _ (fm_cells HK9.out) (fun hHeld => ?_)
    clear hK K
    refine norm_ (a' := ?_) ?_ ?_
    rotate_left
    · show Act.put _ (some 26) _ = _
      simp only [Act.put, List.setIfInBounds_toArray, List.set_cons_zero, List.set_cons_succ, i64_w, i32_w]
      rfl
    obtain ⟨z0, z1, z2, z3, z4⟩ := fm_cells HR9.out
    obtain ⟨f0, f1, f2, f3, f4⟩ := fm_free HR9.out
    obtain ⟨st1, st2, st3⟩ := st5 HR9.out (.int .i64 y.f0) (.string y.f1) (.int .i64 y.f2) (.slice C3 y.f3.length j3) (.slice C4 y.f4.length j4)
    have hS5 := fm_cells ((st2 w5.heap.size hn1).trans HK9.out)
    have HFIN := Lib.hid (show FmS w.heap.size _ y C3 j3 C4 j4 from (HF9.out.move (st3 0 w9 (Below.refl 0 w9) (Nat.zero_le _)).size (fun b h1 h2 => st2 b (by have := Q.IsS104.ge HD9.out.is; omega))).low (by have := Q.IsS104.ge HD9.out.is; omega))
    have HBN := Lib.hid (st3 _ _ HD9.out.b (Nat.le_refl _))
    refine one_ (i := 4) (N := none) #[true, true, true, true, true, false] rfl rfl (by kernel_rfl) (by decide) (fun K hK => ?_)
    refine skip_ (w1 := ?_) (by rfl) rfl ?_ ?_
    rotate_left
    · go_simp
      rfl
    refine hK.out _ _ hS5 (fun hHeld => ?_)
    clear hK K st1 st2 st3 hS5 f0 f1 f2 f3 f4
    refine pure_ (i := 5) (N := some 3) (v := ?_) (a' := ?_) #[true, true, true, true, true, true] rfl rfl (by kernel_rfl) (fun _ _ _ h => h) (Or.inl ⟨by rfl, ?_⟩) ?_ ?_
    rotate_left
    · intro w'
      go_simp
      with_reducible rfl
    rotate_left
    · simp only [Act.put, List.setIfInBounds_toArray, List.set_cons_zero, List.set_cons_succ, i64_w, i32_w]
      rfl
    refine done_ (by kernel_rfl) ?_
    try go_wp2_with fail
    refine bodyPost_ret (v := .tuple #[.agg #[.int .i64 y.f0, .string y.f1, .int .i64 y.f2, .slice C3 y.f3.length j3, .slice C4 y.f4.length j4], .int .i64 m]) (by simp [results, Try.results84, go_sem, z0, z1, z2, z3, z4]) rfl ?_
    exact ⟨_, _, _, _, rfl, HFIN.out, HBN.out⟩
end Go.Proofs.Yteonncnhhccgeaa
end
section
namespace Go.Proofs.Yteonncnhhccgeaa
open Go.RowKit Go.Proofs.YteonncnhhccgeaaW.PrintWords Go.Proofs.YteonncnhhccgeaaW.PrintLast Go.Proofs.YteonncnhhccgeaaW.PrintMore
set_option linter.unusedVariables false
set_option linter.unusedSimpArgs false
set_option maxHeartbeats 1000000 in
theorem drawAdd (l : List Int) (hl : ∀ z, z ∈ l → 0 ≤ z ∧ z < 256) : ∃ (x : Fm) (n : Int), x.tot ≤ 7000 ∧ 0 ≤ n ∧ n ≤ 100 ∧ ∀ (A : Option Addr) (c : Nat) (w : World), (Kd.int .u8).C w A l.length l → l.length ≤ c → Calls Try.prog 30 #[.slice A l.length c] w (GetFV w x (.int .i64 n)) := by
  obtain ⟨x, n, ht, h0, h1, hd⟩ := l2Case_ex l hl
  refine ⟨x, n, ht, h0, h1, fun A c w hr hc => ?_⟩
  have HC := Lib.hid (fun W (hb : Below w.heap.size w W) => hd A c W (Kd.C_below hr hb) hc)
  clear hd hr ht h0 h1
  go_enter Try.func30, Try.ntmps30
  go_wp2_with fail
  refine (HC.out _ (below_new _ _)).mono ?_
  rintro e w1 ⟨D3, e3, D4, e4, rfl, hi, hb1⟩
  obtain ⟨k1, b1⟩ := one_new hb1
  obtain ⟨q0, q1, q2, q3, q4⟩ := fm_cells k1
  obtain ⟨f0, f1, f2, f3, f4⟩ := fm_free k1
  obtain ⟨st1, st2, st3⟩ := st5 k1 (.int .i64 x.f0) (.string x.f1) (.int .i64 x.f2) (.slice D3 x.f3.length e3) (.slice D4 x.f4.length e4)
  have HF := Lib.hid (show FmS w.heap.size _ x D3 e3 D4 e4 from (hi.move (st3 0 w1 (Below.refl 0 w1) (Nat.zero_le _)).size (fun b h1 h2 => st2 b (by simp at h1; omega))).low (by simp))
  have HB := Lib.hid (st3 _ _ b1 (Nat.le_refl _))
  clear st1 st2 st3 hi hb1 k1 b1
  go_wp2_with fail
  refine bodyPost_ret (v := .tuple #[.agg #[.int .i64 x.f0, .string x.f1, .int .i64 x.f2, .slice D3 x.f3.length e3, .slice D4 x.f4.length e4], .int .i64 n]) (by simp [results, Try.results30, go_sem, q0, q1, q2, q3, q4, f0, f1, f2, f3, f4]) rfl ?_
  exact ⟨_, _, _, _, rfl, HF.out.now, HB.out⟩
set_option maxHeartbeats 1000000 in
theorem drawDrop (l : List Int) (hl : ∀ z, z ∈ l → 0 ≤ z ∧ z < 256) : ∃ (x : Fm) (n : Int), x.tot ≤ 7000 ∧ 0 ≤ n ∧ n ≤ 100 ∧ ∀ (A : Option Addr) (c : Nat) (w : World), (Kd.int .u8).C w A l.length l → l.length ≤ c → Calls Try.prog 42 #[.slice A l.length c] w (GetFV w x (.int .i64 n)) := by
  obtain ⟨x, n, ht, h0, h1, hd⟩ := l2Case_ex l hl
  refine ⟨x, n, ht, h0, h1, fun A c w hr hc => ?_⟩
  have HC := Lib.hid (fun W (hb : Below w.heap.size w W) => hd A c W (Kd.C_below hr hb) hc)
  clear hd hr ht h0 h1
  go_enter Try.func42, Try.ntmps42
  go_wp2_with fail
  refine (HC.out _ (below_new _ _)).mono ?_
  rintro e w1 ⟨D3, e3, D4, e4, rfl, hi, hb1⟩
  obtain ⟨k1, b1⟩ := one_new hb1
  obtain ⟨q0, q1, q2, q3, q4⟩ := fm_cells k1
  obtain ⟨f0, f1, f2, f3, f4⟩ := fm_free k1
  obtain ⟨st1, st2, st3⟩ := st5 k1 (.int .i64 x.f0) (.string x.f1) (.int .i64 x.f2) (.slice D3 x.f3.length e3) (.slice D4 x.f4.length e4)
  have HF := Lib.hid (show FmS w.heap.size _ x D3 e3 D4 e4 from (hi.move (st3 0 w1 (Below.refl 0 w1) (Nat.zero_le _)).size (fun b h1 h2 => st2 b (by simp at h1; omega))).low (by simp))
  have HB := Lib.hid (st3 _ _ b1 (Nat.le_refl _))
  clear st1 st2 st3 hi hb1 k1 b1
  go_wp2_with fail
  refine bodyPost_ret (v := .tuple #[.agg #[.int .i64 x.f0, .string x.f1, .int .i64 x.f2, .slice D3 x.f3.length e3, .slice D4 x.f4.length e4], .int .i64 n]) (by simp [results, Try.results42, go_sem, q0, q1, q2, q3, q4, f0, f1, f2, f3, f4]) rfl ?_
  exact ⟨_, _, _, _, rfl, HF.out.now, HB.out⟩
end Go.Proofs.Yteonncnhhccgeaa
end
section
namespace Go.Proofs.Yteonncnhhccgeaa
open Go.RowKit Go.Proofs.YteonncnhhccgeaaW.PrintWords Go.Proofs.YteonncnhhccgeaaW.PrintLast Go.Proofs.YteonncnhhccgeaaW.PrintMore
set_option linter.unusedVariables false
set_option linter.unusedSimpArgs false
theorem byteOk {n : Int} (h : (Lit.int .u8 n).wf = true) : 0 ≤ n ∧ n < 256 := by
  simp only [Lit.wf, Bool.and_eq_true, decide_eq_true_eq] at h
  have e1 : IntKind.u8.min = 0 := by decide
  have e2 : IntKind.u8.max = 255 := by decide
  omega
theorem sameT (x : Fm) (A3 : Option Addr) (c3 : Nat) (A4 : Option Addr) (c4 : Nat) (B3 : Option Addr) (d3 : Nat) (B4 : Option Addr) (d4 : Nat) (w : World) (h1 : FmIn w x A3 c3 A4 c4) (h2 : FmIn w x B3 d3 B4 d4) :
    Calls Try.prog 33 #[.agg #[.int .i64 x.f0, .string x.f1, .int .i64 x.f2, .slice A3 x.f3.length c3, .slice A4 x.f4.length c4], .agg #[.int .i64 x.f0, .string x.f1, .int .i64 x.f2, .slice B3 x.f3.length d3, .slice B4 x.f4.length d4]] w (Ret w (.bool true)) := by
  have := implSame_any x x A3 c3 A4 c4 B3 d3 B4 d4 w h1 h2
  rwa [eqB_self] at this
theorem implGAdd' {n : Int} {x z : Fm} {b : Bool} (hz : reS (fun l => putS l n) n x = (z, b)) (A3 : Option Addr) (c3 : Nat) (A4 : Option Addr) (c4 : Nat) (w : World) (hin : FmIn w x A3 c3 A4 c4) (ht : x.tot ≤ 1048576) :
    Calls Try.prog 31 #[.agg #[.int .i64 x.f0, .string x.f1, .int .i64 x.f2, .slice A3 x.f3.length c3, .slice A4 x.f4.length c4], .int .i64 n] w (GetFV w z (.bool b)) := by
  have := (implAdd_new n x A3 c3 A4 c4 w hin ht).mono (fun e w' h => h.getFV)
  rwa [hz] at this
theorem specGAdd' {n : Int} {x z : Fm} {b : Bool} (hz : reS (fun l => putS l n) n x = (z, b)) (A3 : Option Addr) (c3 : Nat) (A4 : Option Addr) (c4 : Nat) (w : World) (hin : FmIn w x A3 c3 A4 c4) (ht : x.tot ≤ 1000000) :
    Calls Try.prog 32 #[.agg #[.int .i64 x.f0, .string x.f1, .int .i64 x.f2, .slice A3 x.f3.length c3, .slice A4 x.f4.length c4], .int .i64 n] w (GetFV w z (.bool b)) := by
  have := (specAdd_new n x A3 c3 A4 c4 w hin ht).mono (fun e w' h => h.getFV)
  rwa [hz] at this
theorem implGDrop' {n : Int} {x z : Fm} {b : Bool} (hz : reS (fun l => takeO l n) n x = (z, b)) (A3 : Option Addr) (c3 : Nat) (A4 : Option Addr) (c4 : Nat) (w : World) (hin : FmIn w x A3 c3 A4 c4) (ht : x.tot ≤ 1048576) :
    Calls Try.prog 43 #[.agg #[.int .i64 x.f0, .string x.f1, .int .i64 x.f2, .slice A3 x.f3.length c3, .slice A4 x.f4.length c4], .int .i64 n] w (GetFV w z (.bool b)) := by
  have := (implDrop_new n x A3 c3 A4 c4 w hin ht).mono (fun e w' h => h.getFV)
  rwa [hz] at this
theorem specGDrop' {n : Int} {x z : Fm} {b : Bool} (hz : reS (fun l => takeO l n) n x = (z, b)) (A3 : Option Addr) (c3 : Nat) (A4 : Option Addr) (c4 : Nat) (w : World) (hin : FmIn w x A3 c3 A4 c4) (ht : x.tot ≤ 1000000) :
    Calls Try.prog 44 #[.agg #[.int .i64 x.f0, .string x.f1, .int .i64 x.f2, .slice A3 x.f3.length c3, .slice A4 x.f4.length c4], .int .i64 n] w (GetFV w z (.bool b)) := by
  have := (specDrop_new n x A3 c3 A4 c4 w hin ht).mono (fun e w' h => h.getFV)
  rwa [hz] at this
/-- The parts of a changed form are its changed parts; without scopes it is as_ it was. -/
theorem isOk_succ : ∀ (n : Nat) (x : Fm), IsOk n x → IsOk (n + 1) x
  | 0, x, h => by cases x; exact absurd h (by simp [IsOk])
  | n + 1, x, h => by
    unfold IsOk at h ⊢
    rcases h with h | h | ⟨a, b, c, d, e⟩
    · exact .inl h
    · exact .inr (.inl h)
    · exact .inr (.inr ⟨a, b, c, d, fun k hk => isOk_succ n k (e k hk)⟩)
theorem size_kid {x k : Fm} (h : k ∈ x.f4) : k.size < x.size := by
  have := sizes_mem h
  have := x.size_eq
  omega
theorem fmOk_kid {x : Fm} (h : FmOk x) : ∀ k, k ∈ x.f4 → FmOk k := by
  intro k hk
  refine ⟨?_, by have := size_kid hk; have := h.2; omega⟩
  obtain ⟨m, e, hc⟩ := isOk_cases h.1
  obtain rfl : m = 39 := by omega
  rcases hc with ⟨_, _, _, _, d⟩ | ⟨_, _, _, _, _, d⟩ | ⟨_, _, _, _, d⟩
  · rw [d] at hk; cases hk
  · rw [d] at hk; cases hk
  · exact isOk_succ 39 k (d k hk)
theorem bare_chS (g : List Int → List Int) (x : Fm) : (x.chS g).bare = x.bare := by
  induction x using Fm.ind with
  | h x ih =>
    rw [Fm.chS_eq, Fm.bare_eq, Fm.bare_eq x]
    simp only [List.map_map]
    congr 1
    exact List.map_congr_left (fun k hk => ih k hk)
theorem re_bare {g : List Int → List Int} {n : Int} {x z : Fm} (h1 : reS g n x = (z, true)) : z.bare = x.bare := by
  obtain ⟨a1, a2, a3, a4, rfl⟩ := reS_true h1
  exact bare_chS g x
theorem RetF.get {w : World} {x : Fm} {e : Ending} {w' : World} (h : RetF w x e w') : GetF w x e w' := by
  obtain ⟨v3, v4, rfl, hn, hb⟩ := h
  obtain ⟨A3, c3, A4, c4, rfl, rfl, hi⟩ := hn.In
  exact ⟨A3, c3, A4, c4, rfl, hi, hb⟩
end Go.Proofs.Yteonncnhhccgeaa
end
section
namespace Go.Proofs.Yteonncnhhccgeaa
open Go.RowKit Go.Proofs.YteonncnhhccgeaaW.PrintWords Go.Proofs.YteonncnhhccgeaaW.PrintLast Go.Proofs.YteonncnhhccgeaaW.PrintMore
set_option linter.unusedVariables false
set_option linter.unusedSimpArgs false
def IsName (x : Fm) : Prop := x.f0 = 1 ∧ FmOk x
theorem isName_any (x : Fm) (A3 : Option Addr) (c3 : Nat) (A4 : Option Addr) (c4 : Nat) (w : World) (hin : FmIn w x A3 c3 A4 c4) (ht : x.tot ≤ 1048576) :
    Calls Try.prog 115 #[.agg #[.int .i64 x.f0, .string x.f1, .int .i64 x.f2, .slice A3 x.f3.length c3, .slice A4 x.f4.length c4]] w (Ret w (.bool (pB (IsName x)))) := by
  have HC := Lib.hid (implValid_any x A3 c3 A4 c4 _ (hin.below (below_new w (.cells #[.int .i64 x.f0, .string x.f1, .int .i64 x.f2, .slice A3 x.f3.length c3, .slice A4 x.f4.length c4] 31))) ht)
  have HB := Lib.hid (below_new w (.cells #[.int .i64 x.f0, .string x.f1, .int .i64 x.f2, .slice A3 x.f3.length c3, .slice A4 x.f4.length c4] 31))
  clear hin ht
  by_cases k1 : x.f0 = 1
  · have e1 : (x.f0 == 1) = true := by simpa using k1
    have K1 := Lib.hid k1
    clear k1
    go_enter Try.func115, Try.ntmps115
    go_wp2_with fail
    refine HC.out.mono ?_
    rintro e w1 ⟨rfl, hb1⟩
    generalize hE : pB (FmOk x) = E
    have HE := Lib.hid hE
    have HB1 := Lib.hid (below_step HB.out hb1)
    clear hE hb1
    go_wp2_with fail
    go_ret
    exact ⟨ret_b (pB_of (by rw [← HE.out, pB_iff]; exact ⟨fun h => ⟨K1.out, h⟩, fun h => h.2⟩)), HB1.out⟩
  · have e1 : (x.f0 == 1) = false := by simpa using k1
    have K1 := Lib.hid k1
    clear k1 HC
    go_enter Try.func115, Try.ntmps115
    go_wp2_with fail
    go_ret
    exact ⟨ret_b (pB_no (fun h => K1.out h.1)), HB.out⟩
def SmName (x y : Fm) : Prop := FmOk x ∧ FmOk y ∧ x.f0 = 1 ∧ x = y
set_option maxHeartbeats 2000000 in
theorem specSameName_any (x y : Fm) (A3 : Option Addr) (c3 : Nat) (A4 : Option Addr) (c4 : Nat) (B3 : Option Addr) (d3 : Nat) (B4 : Option Addr) (d4 : Nat) (w : World) (hx : FmIn w x A3 c3 A4 c4) (hy : FmIn w y B3 d3 B4 d4) (tx : x.tot ≤ 1048576) (ty : y.tot ≤ 1048576) :
    Calls Try.prog 67 #[.agg #[.int .i64 x.f0, .string x.f1, .int .i64 x.f2, .slice A3 x.f3.length c3, .slice A4 x.f4.length c4], .agg #[.int .i64 y.f0, .string y.f1, .int .i64 y.f2, .slice B3 y.f3.length d3, .slice B4 y.f4.length d4]] w (Ret w (.bool (pB (SmName x y)))) := by
  have HC := Lib.hid (fun W hb => specValid_any x A3 c3 A4 c4 W (hx.below hb) tx)
  have HD := Lib.hid (fun W hb => specValid_any y B3 d3 B4 d4 W (hy.below hb) ty)
  have HS := Lib.hid (fun W hb => specSame_any x y A3 c3 A4 c4 B3 d3 B4 d4 W (hx.below hb) (hy.below hb))
  clear hx hy tx ty
  go_enter Try.func67, Try.ntmps67
  go_wp2_with fail
  refine (HC.out _ (below_step (below_new w _) (below_new _ _))).mono ?_
  rintro e w1 ⟨rfl, hb1⟩
  obtain ⟨k1, l1, b1⟩ := two_new hb1
  clear hb1
  obtain ⟨p0, p1, p2, p3, p4⟩ := fm_cells k1
  obtain ⟨q0, q1, q2, q3, q4⟩ := fm_cells l1
  cases hE : pB (FmOk x) with
  | false =>
    have HE := Lib.hid hE
    have B1 := Lib.hid b1
    clear hE b1 k1 l1
    go_wp2_with fail
    go_ret
    exact ⟨ret_b (pB_no (fun h => by have := pB_yes h.1; rw [HE.out] at this; cases this)), B1.out⟩
  | true =>
    have HE := Lib.hid hE
    clear hE
    go_wp2_with fail
    refine (HD.out _ b1).mono ?_
    rintro e w2 ⟨rfl, hb2⟩
    have k2 := blk_below k1 hb2
    have l2 := blk_below l1 hb2
    have b2 := below_step b1 hb2
    clear hb2 k1 l1 b1 p0 p1 p2 p3 p4 q0 q1 q2 q3 q4
    obtain ⟨p0, p1, p2, p3, p4⟩ := fm_cells k2
    obtain ⟨q0, q1, q2, q3, q4⟩ := fm_cells l2
    cases hF : pB (FmOk y) with
    | false =>
      have HF := Lib.hid hF
      have B2 := Lib.hid b2
      clear hF b2 k2 l2
      go_wp2_with fail
      go_ret
      exact ⟨ret_b (pB_no (fun h => by have := pB_yes h.2.1; rw [HF.out] at this; cases this)), B2.out⟩
    | true =>
      have HF := Lib.hid hF
      clear hF
      have B2 := Lib.hid b2
      by_cases hk : x.f0 = 1
      · have e1 : (x.f0 == 1) = true := by simpa using hk
        have K1 := Lib.hid hk
        clear hk b2 k2 l2
        go_wp2_with fail
        refine (HS.out _ B2.out).mono ?_
        rintro e w3 ⟨rfl, hb3⟩
        have B3 := Lib.hid (below_step B2.out hb3)
        generalize hG : eqB x y = G
        have HG := Lib.hid hG
        clear hb3 hG
        go_wp2_with fail
        go_ret
        exact ⟨ret_b (pB_of (by rw [← HG.out, eqB_iff]; exact ⟨fun h => ⟨pB_iff.1 HE.out, pB_iff.1 HF.out, K1.out, h⟩, fun h => h.2.2.2⟩)), B3.out⟩
      · have e1 : (x.f0 == 1) = false := by simpa using hk
        have K1 := Lib.hid hk
        clear hk b2 k2 l2
        go_wp2_with fail
        go_ret
        exact ⟨ret_b (pB_no (fun h => K1.out h.2.2.1)), B2.out⟩
set_option maxHeartbeats 2000000 in
theorem implSameName_any (x y : Fm) (A3 : Option Addr) (c3 : Nat) (A4 : Option Addr) (c4 : Nat) (B3 : Option Addr) (d3 : Nat) (B4 : Option Addr) (d4 : Nat) (w : World) (hx : FmIn w x A3 c3 A4 c4) (hy : FmIn w y B3 d3 B4 d4) (tx : x.tot ≤ 1048576) (ty : y.tot ≤ 1048576) :
    Calls Try.prog 66 #[.agg #[.int .i64 x.f0, .string x.f1, .int .i64 x.f2, .slice A3 x.f3.length c3, .slice A4 x.f4.length c4], .agg #[.int .i64 y.f0, .string y.f1, .int .i64 y.f2, .slice B3 y.f3.length d3, .slice B4 y.f4.length d4]] w (Ret w (.bool (pB (SmName x y)))) := by
  have HC := Lib.hid (fun W hb => isName_any x A3 c3 A4 c4 W (hx.below hb) tx)
  have HD := Lib.hid (fun W hb => isName_any y B3 d3 B4 d4 W (hy.below hb) ty)
  have HS := Lib.hid (fun W hb => implSame_any x y A3 c3 A4 c4 B3 d3 B4 d4 W (hx.below hb) (hy.below hb))
  clear hx hy tx ty
  go_enter Try.func66, Try.ntmps66
  go_wp2_with fail
  refine (HC.out _ (below_step (below_new w _) (below_new _ _))).mono ?_
  rintro e w1 ⟨rfl, hb1⟩
  obtain ⟨k1, l1, b1⟩ := two_new hb1
  clear hb1
  obtain ⟨p0, p1, p2, p3, p4⟩ := fm_cells k1
  obtain ⟨q0, q1, q2, q3, q4⟩ := fm_cells l1
  cases hE : pB (IsName x) with
  | false =>
    have HE := Lib.hid hE
    have B1 := Lib.hid b1
    clear hE b1 k1 l1
    go_wp2_with fail
    go_ret
    exact ⟨ret_b (pB_no (fun h => by have := pB_yes (show IsName x from ⟨h.2.2.1, h.1⟩); rw [HE.out] at this; cases this)), B1.out⟩
  | true =>
    have HE := Lib.hid hE
    clear hE
    go_wp2_with fail
    refine (HD.out _ b1).mono ?_
    rintro e w2 ⟨rfl, hb2⟩
    have k2 := blk_below k1 hb2
    have l2 := blk_below l1 hb2
    have b2 := below_step b1 hb2
    clear hb2 k1 l1 b1 p0 p1 p2 p3 p4 q0 q1 q2 q3 q4
    obtain ⟨p0, p1, p2, p3, p4⟩ := fm_cells k2
    obtain ⟨q0, q1, q2, q3, q4⟩ := fm_cells l2
    cases hF : pB (IsName y) with
    | false =>
      have HF := Lib.hid hF
      have B2 := Lib.hid b2
      clear hF b2 k2 l2
      go_wp2_with fail
      go_ret
      exact ⟨ret_b (pB_no (fun h => by have := pB_yes (show IsName y from ⟨h.2.2.2 ▸ h.2.2.1, h.2.1⟩); rw [HF.out] at this; cases this)), B2.out⟩
    | true =>
      have HF := Lib.hid hF
      clear hF
      have B2 := Lib.hid b2
      clear b2 k2 l2
      go_wp2_with fail
      refine (HS.out _ B2.out).mono ?_
      rintro e w3 ⟨rfl, hb3⟩
      have B3 := Lib.hid (below_step B2.out hb3)
      generalize hG : eqB x y = G
      have HG := Lib.hid hG
      clear hb3 hG
      go_wp2_with fail
      go_ret
      exact ⟨ret_b (pB_of (by rw [← HG.out, eqB_iff]; exact ⟨fun h => ⟨(pB_iff.1 HE.out).2, (pB_iff.1 HF.out).2, (pB_iff.1 HE.out).1, h⟩, fun h => h.2.2.2⟩)), B3.out⟩
end Go.Proofs.Yteonncnhhccgeaa
end
section
namespace Go.Proofs.Yteonncnhhccgeaa
open Go.RowKit Go.Proofs.YteonncnhhccgeaaW.PrintWords Go.Proofs.YteonncnhhccgeaaW.PrintLast Go.Proofs.YteonncnhhccgeaaW.PrintMore
set_option linter.unusedVariables false
theorem sm_cases (x y : Fm) : (FmOk x ∧ x.f0 = 1 ∧ x = y ∧ pB (SmName x y) = true) ∨ (pB (SmName x y) = false ∧ pB (SmName y x) = false) := by
  by_cases h : SmName x y
  · exact .inl ⟨h.1, h.2.2.1, h.2.2.2, pB_iff.2 h⟩
  · refine .inr ⟨(pB_no h).symm, (pB_no fun k => h ?_).symm⟩
    obtain ⟨a, b, c, d⟩ := k
    exact ⟨b, a, d ▸ c, d.symm⟩
theorem implSm' {x y : Fm} {b : Bool} (h : pB (SmName x y) = b) (A3 : Option Addr) (c3 : Nat) (A4 : Option Addr) (c4 : Nat) (B3 : Option Addr) (d3 : Nat) (B4 : Option Addr) (d4 : Nat) (w : World) (hx : FmIn w x A3 c3 A4 c4) (hy : FmIn w y B3 d3 B4 d4) (tx : x.tot ≤ 1048576) (ty : y.tot ≤ 1048576) :
    Calls Try.prog 66 #[.agg #[.int .i64 x.f0, .string x.f1, .int .i64 x.f2, .slice A3 x.f3.length c3, .slice A4 x.f4.length c4], .agg #[.int .i64 y.f0, .string y.f1, .int .i64 y.f2, .slice B3 y.f3.length d3, .slice B4 y.f4.length d4]] w (Ret w (.bool b)) :=
  h ▸ implSameName_any x y A3 c3 A4 c4 B3 d3 B4 d4 w hx hy tx ty
theorem specSm' {x y : Fm} {b : Bool} (h : pB (SmName x y) = b) (A3 : Option Addr) (c3 : Nat) (A4 : Option Addr) (c4 : Nat) (B3 : Option Addr) (d3 : Nat) (B4 : Option Addr) (d4 : Nat) (w : World) (hx : FmIn w x A3 c3 A4 c4) (hy : FmIn w y B3 d3 B4 d4) (tx : x.tot ≤ 1048576) (ty : y.tot ≤ 1048576) :
    Calls Try.prog 67 #[.agg #[.int .i64 x.f0, .string x.f1, .int .i64 x.f2, .slice A3 x.f3.length c3, .slice A4 x.f4.length c4], .agg #[.int .i64 y.f0, .string y.f1, .int .i64 y.f2, .slice B3 y.f3.length d3, .slice B4 y.f4.length d4]] w (Ret w (.bool b)) :=
  h ▸ specSameName_any x y A3 c3 A4 c4 B3 d3 B4 d4 w hx hy tx ty
/-- A scope can be added to a name with few. -/
theorem sm_add {x : Fm} (h : FmOk x) (h0 : x.f0 = 1) (h3 : x.f3.length ≤ 3) : ∃ z, reS (fun l => putS l 7) 7 x = (z, true) ∧ z.tot ≤ 20000 ∧ pB (SmName z z) = true := by
  have hz : FmOk (x.chS (fun l => putS l 7)) := by
    refine (fmOk_chS h _).2 ?_
    have hsc := (fmOk_sc h).at h0
    obtain ⟨m, _, hc⟩ := isOk_cases h.1
    have hk : x.f4 = [] := by rcases hc with h | h | h <;> first | exact h.2.2.2.2 | omega
    exact ⟨x, fun _ => (scOk_putS hsc (by omega) (by omega)).2 (by have := len_putS_le x.f3 7; omega), fun k hk2 => by rw [hk] at hk2; cases hk2⟩
  refine ⟨x.chS (fun l => putS l 7), by rw [reS_in h (by omega) (by omega), orN_yes hz], fmOk_tot hz, pB_iff.2 ⟨hz, hz, ?_, rfl⟩⟩
  rw [Fm.chS_eq]
  exact h0
end Go.Proofs.Yteonncnhhccgeaa
end
section
namespace Go.Proofs.Yteonncnhhccgeaa
open Go.RowKit Go.Proofs.YteonncnhhccgeaaW.PrintWords Go.Proofs.YteonncnhhccgeaaW.PrintLast Go.Proofs.YteonncnhhccgeaaW.PrintMore
set_option linter.unusedVariables false
set_option linter.unusedSimpArgs false
/-- Two forms are handed back. -/
def GetTwo (w : World) (x y : Fm) (e : Ending) (w' : World) : Prop := ∃ A3 c3 A4 c4 B3 d3 B4 d4, e = .returned (.tuple #[.agg #[.int .i64 x.f0, .string x.f1, .int .i64 x.f2, .slice A3 x.f3.length c3, .slice A4 x.f4.length c4], .agg #[.int .i64 y.f0, .string y.f1, .int .i64 y.f2, .slice B3 y.f3.length d3, .slice B4 y.f4.length d4]]) ∧ FmIn w' x A3 c3 A4 c4 ∧ FmIn w' y B3 d3 B4 d4 ∧ Below w.heap.size w w'
/-- The form of a name without scopes. -/
abbrev lnm (n : ByteArray) : Fm := ⟨1, n, 0, [], []⟩
theorem lnm_in (n : ByteArray) (w : World) : FmIn w (lnm n) none 0 none 0 := ⟨Nat.le_refl 0, Kd.C_nil kI w, Nat.le_refl 0, Kd.C_nil kF w⟩
theorem nm_small {n : ByteArray} (h : n ∈ [(⟨#[120]⟩ : ByteArray), ⟨#[121]⟩]) : n.size ≤ 13 := by
  simp only [List.mem_cons, List.not_mem_nil, or_false] at h
  rcases h with rfl | rfl <;> decide
theorem l1Name_any (n : ByteArray) (w : World) : Calls Try.prog 114 #[.string n] w (fun e w' => e = .returned (.agg #[.int .i64 1, .string n, .int .i64 0, .slice none 0 0, .slice none 0 0]) ∧ Below w.heap.size w w') := by
  have k0 := blk_new w (.cells #[.int .i64 1, .string n, .int .i64 0, .slice none 0 0, .slice none 0 0] 31)
  obtain ⟨q0, q1, q2, q3, q4⟩ := fm_cells k0
  have HB := Lib.hid (below_new w (.cells #[.int .i64 1, .string n, .int .i64 0, .slice none 0 0, .slice none 0 0] 31))
  clear k0
  go_enter Try.func114, Try.ntmps114
  go_wp2_with fail
  refine bodyPost_ret (v := .agg #[.int .i64 1, .string n, .int .i64 0, .slice none 0 0, .slice none 0 0]) (by simp [results, Try.results114, go_sem, q0, q1, q2, q3, q4]) rfl ?_
  exact ⟨rfl, HB.out⟩
set_option maxHeartbeats 4000000 in
set_option maxRecDepth 100000 in
theorem drawSame (l : List Int) (hl : ∀ z, z ∈ l → 0 ≤ z ∧ z < 256) : ∃ (a b : Fm), a.tot ≤ 7000 ∧ b.tot ≤ 7000 ∧ a.f0 = 1 ∧ a.f3.length ≤ 3 ∧ ∀ (A : Option Addr) (c : Nat) (w : World), (Kd.int .u8).C w A l.length l → l.length ≤ c → Calls Try.prog 65 #[.slice A l.length c] w (GetTwo w a b) := by
  obtain ⟨s, hs, hopen⟩ := open_at l hl
  obtain ⟨nm, hnm, e1⟩ := ev_of hs 0 (by omega) [(⟨#[120]⟩ : ByteArray), ⟨#[121]⟩] (by simp) (by simp)
  have n1 := nm_small hnm
  have ht1 : (lnm nm).tot = nm.size + 0 + 0 := Fm.tot_eq _
  have hs1 : (lnm nm).size = 1 + 0 := Fm.size_eq _
  obtain ⟨a, q1, a1, b1, a1s, f1, c1⟩ := dress_ex hs (lnm nm) (by omega) 1 (by omega)
  have ha0 : a.f0 = 1 := f1.f0
  have ha3 : a.f3.length ≤ 3 := sets7_len _ (f1.f3 rfl)
  obtain ⟨v, hv, e2⟩ := ev_pick hs q1 (by omega) 6 (by omega)
  have HO := Lib.hid hopen
  have HE1 := Lib.hid e1
  have HS1 := Lib.hid c1
  have HE2 := Lib.hid e2
  have hat : a.tot ≤ 7000 := by omega
  clear hopen e1 c1 e2 hnm hv
  by_cases v0 : v = 0
  · have t0 : (v == 0) = true := beq_iff_eq.mpr v0
    obtain ⟨x1, q2, a2, b2, k1⟩ := some_ex hs 1 (by omega) (q1 + 1) (by have := Bn_le (show 1 ≤ 4 by omega); omega)
    have hB := Bn_le (show 1 ≤ 4 by omega)
    have s1 := sizes_totL x1
    obtain ⟨b, q3, a3, b3, _, f3, k2⟩ := dress_ex hs x1 (by omega) q2 (by omega)
    refine ⟨a, b, hat, by omega, ha0, ha3, fun A c w hr hc => ?_⟩
    have K1 := Lib.hid k1
    have K2 := Lib.hid k2
    clear k1 k2 hs a1 b1 a2 b2 a3 b3 f1 f3 s1 hB a1s v0 ht1 hs1 ha0 ha3 hat n1
    go_enter Try.func65, Try.ntmps65
    go_wp2_with fail
    refine (HO.out A c w _ (below_step (below_new _ _) (below_new _ _)) hr hc).mono ?_
    rintro e w2 ⟨g, rfl, hi, hb, hb2⟩
    obtain ⟨kr2, kr3, hbw⟩ := two_new hb2
    have HD := Lib.hid (Dr.new hi hb)
    have HG2 := Lib.hid (show g ≠ w.heap.size from Q.IsS104.ne_blk hi kr2 (by decide))
    have HG3 := Lib.hid (show g ≠ w.heap.size + 1 from Q.IsS104.ne_blk hi kr3 (by decide))
    have HR2 := Lib.hid kr2
    have HR3 := Lib.hid kr3
    have HW2 := Lib.hid (show w.heap.size + 1 < w2.heap.size from blk_lt kr3)
    clear hi hb hb2 kr2 kr3 hbw
    go_wp2_with fail
    refine (of_lit (l := [(⟨#[120]⟩ : ByteArray), ⟨#[121]⟩]) rfl (by simp) HE1.out g w w2 HD.out.is HD.out.b).mono ?_
    rintro e w3 ⟨rfl, hi, hb, hk⟩
    replace HD := Lib.hid (HD.out.call hi hb hk)
    clear hi hb hk
    go_wp2_with fail
    refine (l1Name_any nm w3).mono ?_
    rintro e w4 ⟨rfl, hb⟩
    replace HD := Lib.hid (HD.out.later hb)
    clear hb
    go_wp2_with fail
    refine (HS1.out g none 0 none 0 w w4 HD.out.is HD.out.b (lnm_in nm w4)).mono ?_
    intro e w5 hp
    obtain ⟨A_3, A_c3, A_4, A_c4, rfl, hf, hi, hb, hk⟩ := hp.get
    have HF2 := Lib.hid hf
    have HL2 := Lib.hid (show g < w4.heap.size from HD.out.ltW)
    have HW4 := Lib.hid (show w2.heap.size ≤ w4.heap.size from HD.out.size)
    have HW5 := Lib.hid (show w2.heap.size ≤ w5.heap.size from Nat.le_trans HD.out.size hk.1)
    replace HD := Lib.hid (HD.out.call hi hb hk)
    clear hi hb hk hf hp
    go_wp2_with fail
    refine (pick_at HE2.out g w _ (HD.out.later (below_new _ _)).is (HD.out.later (below_new _ _)).b).mono ?_
    rintro e w6 ⟨rfl, hi, hb, hk⟩
    have HD5 := Lib.hid ((HD.out.later (below_new _ (.cells #[.int .i64 a.f0, .string a.f1, .int .i64 a.f2, .slice A_3 a.f3.length A_c3, .slice A_4 a.f4.length A_c4] 31))).call hi hb hk)
    have HG5 := Lib.hid (show w5.heap.size ≠ g from by have := HL2.out; have := HD.out.size; have := HD.out.lt; have := HW5.out; omega)
    have HK5 := Lib.hid (show w6.heap[w5.heap.size]? = some (.cells #[.int .i64 a.f0, .string a.f1, .int .i64 a.f2, .slice A_3 a.f3.length A_c3, .slice A_4 a.f4.length A_c4] 31) from hk.blk (blk_new w5 _) HG5.out (by simp))
    have HF6 := Lib.hid ((HF2.out.later (below_new _ (.cells #[.int .i64 a.f0, .string a.f1, .int .i64 a.f2, .slice A_3 a.f3.length A_c3, .slice A_4 a.f4.length A_c4] 31))).keep hk HL2.out)
    clear hi hb hk
    go_wp2_with fail
    have HDD := Lib.hid (HD5.out.later (below_drew (Below.refl _ _)))
    have HKD := Lib.hid (blk_drew HK5.out)
    have HRD2 := Lib.hid (blk_drew (HD5.out.kp.blk HR2.out (fun e => HG2.out e.symm) (by simp)))
    have HRD3 := Lib.hid (blk_drew (HD5.out.kp.blk HR3.out (fun e => HG3.out e.symm) (by simp)))
    have HFD := Lib.hid (HF6.out.later (below_drew (Below.refl _ _)))
    refine start_ (n := 7) (S := (fun W : World => W.cell? ⟨w5.heap.size, 0, none⟩ = some (.int .i64 a.f0) ∧ W.cell? ⟨w5.heap.size, 1, none⟩ = some (.string a.f1) ∧ W.cell? ⟨w5.heap.size, 2, none⟩ = some (.int .i64 a.f2) ∧ W.cell? ⟨w5.heap.size, 3, none⟩ = some (.slice A_3 a.f3.length A_c3) ∧ W.cell? ⟨w5.heap.size, 4, none⟩ = some (.slice A_4 a.f4.length A_c4))) (ds := []) #[false, false, false, false, false, false, false] (by kernel_rfl) rfl rfl (fm_cells HKD.out) (fun hHeld => ?_)
    generalize w6.drew = wd at HDD HKD HRD2 HRD3 HFD hHeld ⊢
    refine take_ (i := 0) (N := some 18) (v := ?_) (a' := ?_) #[true, false, false, false, false, false, false] rfl rfl (by kernel_rfl) (fun _ _ _ h => h) (Or.inl ⟨by rfl, ?_⟩) hHeld ?_ ?_
    rotate_left
    · rintro w' ⟨s0, s1, s2, s3, s4⟩
      go_simp
      with_reducible rfl
    rotate_left
    · simp only [Act.put, List.setIfInBounds_toArray, List.set_cons_zero, List.set_cons_succ, i64_w, i32_w]
      rfl
    refine pure_ (i := 1) (N := some 19) (v := ?_) (a' := ?_) #[true, true, false, false, false, false, false] rfl rfl (by kernel_rfl) (fun _ _ _ h => h) (Or.inl ⟨by rfl, ?_⟩) ?_ ?_
    rotate_left
    · intro w'
      go_simp
      with_reducible rfl
    rotate_left
    · simp only [Act.put, List.setIfInBounds_toArray, List.set_cons_zero, List.set_cons_succ, i64_w, i32_w]
      rfl
    refine pure_ (i := 2) (N := some 20) (v := ?_) (a' := ?_) #[true, true, true, false, false, false, false] rfl rfl (by kernel_rfl) (fun _ _ _ h => h) (Or.inl ⟨by rfl, ?_⟩) ?_ ?_
    rotate_left
    · intro w'
      go_simp
      with_reducible rfl
    rotate_left
    · simp only [Act.put, List.setIfInBounds_toArray, List.set_cons_zero, List.set_cons_succ, i64_w, i32_w]
      rfl
    refine one_ (i := 3) (N := some 21) #[true, true, true, true, false, false, false] rfl rfl (by kernel_rfl) (by decide) (fun K hK => ?_)
    refine goes_ Try.func112 (by kernel_rfl) rfl #[.pointer (some ⟨g, 0, none⟩), .int .i64 1] (by rfl) rfl rfl (by (try simp only [List.map_toArray, List.map_cons, List.map_nil]); first | done | rfl) ?_
    refine (K1.out g w wd HDD.out.is HDD.out.b).mono ?_
    rintro e w9 ⟨C_3, C_c3, C_4, C_c4, rfl, hf, hi, hb, hk⟩
    have HFC := Lib.hid hf.now
    clear hf
    refine ⟨_, rfl, ?_⟩
    replace HKD := Lib.hid (hk.blk HKD.out HG5.out (by simp))
    replace HRD2 := Lib.hid (hk.blk HRD2.out (fun e => HG2.out e.symm) (by simp))
    replace HRD3 := Lib.hid (hk.blk HRD3.out (fun e => HG3.out e.symm) (by simp))
    replace HFD := Lib.hid (HFD.out.keep hk HL2.out)
    replace HDD := Lib.hid (HDD.out.call hi hb hk)
    clear hi hb hk
    refine hK.out _ _ (fm_cells HKD.out) (fun hHeld => ?_)
    clear hK K
    refine norm_ (a' := ?_) ?_ ?_
    rotate_left
    · show Act.put _ (some 21) _ = _
      simp only [Act.put, List.setIfInBounds_toArray, List.set_cons_zero, List.set_cons_succ, i64_w, i32_w]
      rfl
    refine one_ (i := 4) (N := some 22) #[true, true, true, true, true, false, false] rfl rfl (by kernel_rfl) (by decide) (fun K hK => ?_)
    refine goes_ Try.func113 (by kernel_rfl) rfl #[.pointer (some ⟨g, 0, none⟩), .agg #[.int .i64 x1.f0, .string x1.f1, .int .i64 x1.f2, .slice C_3 x1.f3.length C_c3, .slice C_4 x1.f4.length C_c4]] (by rfl) rfl rfl (by (try simp only [List.map_toArray, List.map_cons, List.map_nil]); first | done | rfl) ?_
    refine (K2.out g C_3 C_c3 C_4 C_c4 w w9 HDD.out.is HDD.out.b HFC.out).mono ?_
    intro e w10 hp
    obtain ⟨B_3, B_c3, B_4, B_c4, rfl, hf, hi, hb, hk⟩ := hp.get
    have HFB := Lib.hid hf
    have HLB := Lib.hid (show w.heap.size + 1 < w9.heap.size from by have := HDD.out.size; have := HW2.out; omega)
    clear hf hp
    refine ⟨_, rfl, ?_⟩
    replace HKD := Lib.hid (hk.blk HKD.out HG5.out (by simp))
    replace HRD2 := Lib.hid (hk.blk HRD2.out (fun e => HG2.out e.symm) (by simp))
    replace HRD3 := Lib.hid (hk.blk HRD3.out (fun e => HG3.out e.symm) (by simp))
    replace HFD := Lib.hid (HFD.out.keep hk HL2.out)
    replace HDD := Lib.hid (HDD.out.call hi hb hk)
    clear hi hb hk
    refine hK.out _ _ (fm_cells HKD.out) (fun hHeld => ?_)
    clear hK K
    refine norm_ (a' := ?_) ?_ ?_
    rotate_left
    · show Act.put _ (some 22) _ = _
      simp only [Act.put, List.setIfInBounds_toArray, List.set_cons_zero, List.set_cons_succ, i64_w, i32_w]
      rfl
    obtain ⟨z0, z1, z2, z3, z4⟩ := fm_cells HRD2.out
    obtain ⟨f0, f1, f2, f3, f4⟩ := fm_free HRD2.out
    obtain ⟨st1, st2, st3⟩ := st5 HRD2.out (.int .i64 a.f0) (.string a.f1) (.int .i64 a.f2) (.slice A_3 a.f3.length A_c3) (.slice A_4 a.f4.length A_c4)
    have hn5 : w5.heap.size ≠ w.heap.size := by have := HW2.out; have := HW5.out; omega
    have hn6 : w5.heap.size ≠ w.heap.size + 1 := by have := HW2.out; have := HW5.out; omega
    have K5 := Lib.hid ((st2 w5.heap.size hn5).trans HKD.out)
    have R3 := Lib.hid ((st2 (w.heap.size + 1) (by omega)).trans HRD3.out)
    have R2 := Lib.hid st1
    have FA := Lib.hid (HFD.out.move (st3 0 w10 (Below.refl 0 _) (Nat.zero_le _)).size (fun b h1 h2 => st2 b (by have := HW2.out; have := HW4.out; omega)))
    have FB := Lib.hid (HFB.out.move (st3 0 w10 (Below.refl 0 _) (Nat.zero_le _)).size (fun b h1 h2 => st2 b (by have := HLB.out; omega)))
    have BB := Lib.hid (st3 _ _ HDD.out.b (Nat.le_refl _))
    clear st1 st2 st3
    refine one_ (i := 5) (N := none) #[true, true, true, true, true, true, false] rfl rfl (by kernel_rfl) (by decide) (fun K hK => ?_)
    refine skip_ (w1 := ?_) (by rfl) rfl ?_ ?_
    rotate_left
    · go_simp
      rfl
    refine hK.out _ _ (fm_cells K5.out) (fun hHeld => ?_)
    clear hK K z0 z1 z2 z3 z4 f0 f1 f2 f3 f4
    generalize World.setCell (World.setCell (World.setCell (World.setCell (World.setCell w10 _ _) _ _) _ _) _ _) _ _ = wx at K5 R3 R2 FA FB BB hHeld ⊢
    obtain ⟨z0, z1, z2, z3, z4⟩ := fm_cells R3.out
    obtain ⟨f0, f1, f2, f3, f4⟩ := fm_free R3.out
    obtain ⟨st1, st2, st3⟩ := st5 R3.out (.int .i64 b.f0) (.string b.f1) (.int .i64 b.f2) (.slice B_3 b.f3.length B_c3) (.slice B_4 b.f4.length B_c4)
    have K5' := Lib.hid ((st2 w5.heap.size hn6).trans K5.out)
    have R2' := Lib.hid ((st2 w.heap.size (by omega)).trans R2.out)
    have R3' := Lib.hid st1
    have FA' := Lib.hid (FA.out.move (st3 0 wx (Below.refl 0 _) (Nat.zero_le _)).size (fun b h1 h2 => st2 b (by have := HW2.out; have := HW4.out; omega))).now
    have FB' := Lib.hid (FB.out.move (st3 0 wx (Below.refl 0 _) (Nat.zero_le _)).size (fun b h1 h2 => st2 b (by have := HLB.out; omega))).now
    have BB' := Lib.hid (st3 _ _ BB.out (by omega))
    clear st1 st2 st3 FA FB BB R2 K5 R3
    refine one_ (i := 6) (N := none) #[true, true, true, true, true, true, true] rfl rfl (by kernel_rfl) (by decide) (fun K hK => ?_)
    refine skip_ (w1 := ?_) (by rfl) rfl ?_ ?_
    rotate_left
    · go_simp
      rfl
    refine hK.out _ _ (fm_cells K5'.out) (fun hHeld => ?_)
    clear hK K z0 z1 z2 z3 z4 f0 f1 f2 f3 f4
    generalize World.setCell (World.setCell (World.setCell (World.setCell (World.setCell wx _ _) _ _) _ _) _ _) _ _ = wy at K5' R2' R3' FA' FB' BB' hHeld ⊢
    refine done_ (by kernel_rfl) ?_
    obtain ⟨z0, z1, z2, z3, z4⟩ := fm_cells R2'.out
    obtain ⟨y0, y1, y2, y3, y4⟩ := fm_cells R3'.out
    try go_wp2_with fail
    refine bodyPost_ret (v := .tuple #[.agg #[.int .i64 a.f0, .string a.f1, .int .i64 a.f2, .slice A_3 a.f3.length A_c3, .slice A_4 a.f4.length A_c4], .agg #[.int .i64 b.f0, .string b.f1, .int .i64 b.f2, .slice B_3 b.f3.length B_c3, .slice B_4 b.f4.length B_c4]]) (by simp [results, Try.results65, go_sem, z0, z1, z2, z3, z4, y0, y1, y2, y3, y4]) rfl ?_
    exact ⟨_, _, _, _, _, _, _, _, rfl, FA'.out, FB'.out, BB'.out⟩
  have t0 : (v == 0) = false := beq_eq_false_iff_ne.mpr v0
  by_cases v1 : v = 1
  · have t1 : (v == 1) = true := beq_iff_eq.mpr v1
    refine ⟨a, a, hat, hat, ha0, ha3, fun A c w hr hc => ?_⟩
    have HAT := Lib.hid hat
    clear hs a1 b1 f1 a1s v1 v0 ht1 hs1 ha0 ha3 hat n1
    go_enter Try.func65, Try.ntmps65
    go_wp2_with fail
    refine (HO.out A c w _ (below_step (below_new _ _) (below_new _ _)) hr hc).mono ?_
    rintro e w2 ⟨g, rfl, hi, hb, hb2⟩
    obtain ⟨kr2, kr3, hbw⟩ := two_new hb2
    have HD := Lib.hid (Dr.new hi hb)
    have HG2 := Lib.hid (show g ≠ w.heap.size from Q.IsS104.ne_blk hi kr2 (by decide))
    have HG3 := Lib.hid (show g ≠ w.heap.size + 1 from Q.IsS104.ne_blk hi kr3 (by decide))
    have HR2 := Lib.hid kr2
    have HR3 := Lib.hid kr3
    have HW2 := Lib.hid (show w.heap.size + 1 < w2.heap.size from blk_lt kr3)
    clear hi hb hb2 kr2 kr3 hbw
    go_wp2_with fail
    refine (of_lit (l := [(⟨#[120]⟩ : ByteArray), ⟨#[121]⟩]) rfl (by simp) HE1.out g w w2 HD.out.is HD.out.b).mono ?_
    rintro e w3 ⟨rfl, hi, hb, hk⟩
    replace HD := Lib.hid (HD.out.call hi hb hk)
    clear hi hb hk
    go_wp2_with fail
    refine (l1Name_any nm w3).mono ?_
    rintro e w4 ⟨rfl, hb⟩
    replace HD := Lib.hid (HD.out.later hb)
    clear hb
    go_wp2_with fail
    refine (HS1.out g none 0 none 0 w w4 HD.out.is HD.out.b (lnm_in nm w4)).mono ?_
    intro e w5 hp
    obtain ⟨A_3, A_c3, A_4, A_c4, rfl, hf, hi, hb, hk⟩ := hp.get
    have HF2 := Lib.hid hf
    have HL2 := Lib.hid (show g < w4.heap.size from HD.out.ltW)
    have HW4 := Lib.hid (show w2.heap.size ≤ w4.heap.size from HD.out.size)
    have HW5 := Lib.hid (show w2.heap.size ≤ w5.heap.size from Nat.le_trans HD.out.size hk.1)
    replace HD := Lib.hid (HD.out.call hi hb hk)
    clear hi hb hk hf hp
    go_wp2_with fail
    refine (pick_at HE2.out g w _ (HD.out.later (below_new _ _)).is (HD.out.later (below_new _ _)).b).mono ?_
    rintro e w6 ⟨rfl, hi, hb, hk⟩
    have HD5 := Lib.hid ((HD.out.later (below_new _ (.cells #[.int .i64 a.f0, .string a.f1, .int .i64 a.f2, .slice A_3 a.f3.length A_c3, .slice A_4 a.f4.length A_c4] 31))).call hi hb hk)
    have HG5 := Lib.hid (show w5.heap.size ≠ g from by have := HL2.out; have := HD.out.size; have := HD.out.lt; have := HW5.out; omega)
    have HK5 := Lib.hid (show w6.heap[w5.heap.size]? = some (.cells #[.int .i64 a.f0, .string a.f1, .int .i64 a.f2, .slice A_3 a.f3.length A_c3, .slice A_4 a.f4.length A_c4] 31) from hk.blk (blk_new w5 _) HG5.out (by simp))
    have HF6 := Lib.hid ((HF2.out.later (below_new _ (.cells #[.int .i64 a.f0, .string a.f1, .int .i64 a.f2, .slice A_3 a.f3.length A_c3, .slice A_4 a.f4.length A_c4] 31))).keep hk HL2.out)
    clear hi hb hk
    go_wp2_with fail
    have HDD := Lib.hid (HD5.out.later (below_drew (Below.refl _ _)))
    have HKD := Lib.hid (blk_drew HK5.out)
    have HRD2 := Lib.hid (blk_drew (HD5.out.kp.blk HR2.out (fun e => HG2.out e.symm) (by simp)))
    have HRD3 := Lib.hid (blk_drew (HD5.out.kp.blk HR3.out (fun e => HG3.out e.symm) (by simp)))
    have HFD := Lib.hid (HF6.out.later (below_drew (Below.refl _ _)))
    refine start_ (n := 5) (S := (fun W : World => W.cell? ⟨w5.heap.size, 0, none⟩ = some (.int .i64 a.f0) ∧ W.cell? ⟨w5.heap.size, 1, none⟩ = some (.string a.f1) ∧ W.cell? ⟨w5.heap.size, 2, none⟩ = some (.int .i64 a.f2) ∧ W.cell? ⟨w5.heap.size, 3, none⟩ = some (.slice A_3 a.f3.length A_c3) ∧ W.cell? ⟨w5.heap.size, 4, none⟩ = some (.slice A_4 a.f4.length A_c4))) (ds := []) #[false, false, false, false, false] (by kernel_rfl) rfl rfl (fm_cells HKD.out) (fun hHeld => ?_)
    generalize w6.drew = wd at HDD HKD HRD2 HRD3 HFD hHeld ⊢
    refine take_ (i := 0) (N := some 26) (v := ?_) (a' := ?_) #[true, false, false, false, false] rfl rfl (by kernel_rfl) (fun _ _ _ h => h) (Or.inl ⟨by rfl, ?_⟩) hHeld ?_ ?_
    rotate_left
    · rintro w' ⟨s0, s1, s2, s3, s4⟩
      go_simp
      with_reducible rfl
    rotate_left
    · simp only [Act.put, List.setIfInBounds_toArray, List.set_cons_zero, List.set_cons_succ, i64_w, i32_w]
      rfl
    refine take_ (i := 1) (N := some 27) (v := ?_) (a' := ?_) #[true, true, false, false, false] rfl rfl (by kernel_rfl) (fun _ _ _ h => h) (Or.inl ⟨by rfl, ?_⟩) hHeld ?_ ?_
    rotate_left
    · rintro w' ⟨s0, s1, s2, s3, s4⟩
      go_simp
      with_reducible rfl
    rotate_left
    · simp only [Act.put, List.setIfInBounds_toArray, List.set_cons_zero, List.set_cons_succ, i64_w, i32_w]
      rfl
    refine one_ (i := 2) (N := some 28) #[true, true, true, false, false] rfl rfl (by kernel_rfl) (by decide) (fun K hK => ?_)
    refine goes_ Try.func120 (by kernel_rfl) rfl #[.agg #[.int .i64 a.f0, .string a.f1, .int .i64 a.f2, .slice A_3 a.f3.length A_c3, .slice A_4 a.f4.length A_c4]] (by rfl) rfl rfl (by (try simp only [List.map_toArray, List.map_cons, List.map_nil]); first | done | rfl) ?_
    refine (l1Copy_any a A_3 A_c3 A_4 A_c4 wd HFD.out.now (by have := HAT.out; omega)).mono ?_
    rintro e w9 ⟨v3, v4, rfl, hn, hb0⟩
    obtain ⟨B_3, B_c3, B_4, B_c4, rfl, rfl, hf⟩ := NewF.toS hn
    have HFB := Lib.hid hf
    have HLB := Lib.hid (show w.heap.size + 1 < wd.heap.size from by have := HDD.out.size; have := HW2.out; omega)
    have HD9 := HDD.out.later hb0
    have hi := HD9.is
    have hb := HD9.b
    have hk := KeepBut.of_below hb0 g none
    clear hf hn HD9 hb0
    refine ⟨_, rfl, ?_⟩
    replace HKD := Lib.hid (hk.blk HKD.out HG5.out (by simp))
    replace HRD2 := Lib.hid (hk.blk HRD2.out (fun e => HG2.out e.symm) (by simp))
    replace HRD3 := Lib.hid (hk.blk HRD3.out (fun e => HG3.out e.symm) (by simp))
    replace HFD := Lib.hid (HFD.out.keep hk HL2.out)
    replace HDD := Lib.hid (HDD.out.call hi hb hk)
    clear hi hb hk
    refine hK.out _ _ (fm_cells HKD.out) (fun hHeld => ?_)
    clear hK K
    refine norm_ (a' := ?_) ?_ ?_
    rotate_left
    · show Act.put _ (some 28) _ = _
      simp only [Act.put, List.setIfInBounds_toArray, List.set_cons_zero, List.set_cons_succ, i64_w, i32_w]
      rfl
    obtain ⟨z0, z1, z2, z3, z4⟩ := fm_cells HRD2.out
    obtain ⟨f0, f1, f2, f3, f4⟩ := fm_free HRD2.out
    obtain ⟨st1, st2, st3⟩ := st5 HRD2.out (.int .i64 a.f0) (.string a.f1) (.int .i64 a.f2) (.slice A_3 a.f3.length A_c3) (.slice A_4 a.f4.length A_c4)
    have hn5 : w5.heap.size ≠ w.heap.size := by have := HW2.out; have := HW5.out; omega
    have hn6 : w5.heap.size ≠ w.heap.size + 1 := by have := HW2.out; have := HW5.out; omega
    have K5 := Lib.hid ((st2 w5.heap.size hn5).trans HKD.out)
    have R3 := Lib.hid ((st2 (w.heap.size + 1) (by omega)).trans HRD3.out)
    have R2 := Lib.hid st1
    have FA := Lib.hid (HFD.out.move (st3 0 w9 (Below.refl 0 _) (Nat.zero_le _)).size (fun b h1 h2 => st2 b (by have := HW2.out; have := HW4.out; omega)))
    have FB := Lib.hid (HFB.out.move (st3 0 w9 (Below.refl 0 _) (Nat.zero_le _)).size (fun b h1 h2 => st2 b (by have := HLB.out; omega)))
    have BB := Lib.hid (st3 _ _ HDD.out.b (Nat.le_refl _))
    clear st1 st2 st3
    refine one_ (i := 3) (N := none) #[true, true, true, true, false] rfl rfl (by kernel_rfl) (by decide) (fun K hK => ?_)
    refine skip_ (w1 := ?_) (by rfl) rfl ?_ ?_
    rotate_left
    · go_simp
      rfl
    refine hK.out _ _ (fm_cells K5.out) (fun hHeld => ?_)
    clear hK K z0 z1 z2 z3 z4 f0 f1 f2 f3 f4
    generalize World.setCell (World.setCell (World.setCell (World.setCell (World.setCell w9 _ _) _ _) _ _) _ _) _ _ = wx at K5 R3 R2 FA FB BB hHeld ⊢
    obtain ⟨z0, z1, z2, z3, z4⟩ := fm_cells R3.out
    obtain ⟨f0, f1, f2, f3, f4⟩ := fm_free R3.out
    obtain ⟨st1, st2, st3⟩ := st5 R3.out (.int .i64 a.f0) (.string a.f1) (.int .i64 a.f2) (.slice B_3 a.f3.length B_c3) (.slice B_4 a.f4.length B_c4)
    have K5' := Lib.hid ((st2 w5.heap.size hn6).trans K5.out)
    have R2' := Lib.hid ((st2 w.heap.size (by omega)).trans R2.out)
    have R3' := Lib.hid st1
    have FA' := Lib.hid (FA.out.move (st3 0 wx (Below.refl 0 _) (Nat.zero_le _)).size (fun b h1 h2 => st2 b (by have := HW2.out; have := HW4.out; omega))).now
    have FB' := Lib.hid (FB.out.move (st3 0 wx (Below.refl 0 _) (Nat.zero_le _)).size (fun b h1 h2 => st2 b (by have := HLB.out; omega))).now
    have BB' := Lib.hid (st3 _ _ BB.out (by omega))
    clear st1 st2 st3 FA FB BB R2 K5 R3
    refine one_ (i := 4) (N := none) #[true, true, true, true, true] rfl rfl (by kernel_rfl) (by decide) (fun K hK => ?_)
    refine skip_ (w1 := ?_) (by rfl) rfl ?_ ?_
    rotate_left
    · go_simp
      rfl
    refine hK.out _ _ (fm_cells K5'.out) (fun hHeld => ?_)
    clear hK K z0 z1 z2 z3 z4 f0 f1 f2 f3 f4
    generalize World.setCell (World.setCell (World.setCell (World.setCell (World.setCell wx _ _) _ _) _ _) _ _) _ _ = wy at K5' R2' R3' FA' FB' BB' hHeld ⊢
    refine done_ (by kernel_rfl) ?_
    obtain ⟨z0, z1, z2, z3, z4⟩ := fm_cells R2'.out
    obtain ⟨y0, y1, y2, y3, y4⟩ := fm_cells R3'.out
    try go_wp2_with fail
    refine bodyPost_ret (v := .tuple #[.agg #[.int .i64 a.f0, .string a.f1, .int .i64 a.f2, .slice A_3 a.f3.length A_c3, .slice A_4 a.f4.length A_c4], .agg #[.int .i64 a.f0, .string a.f1, .int .i64 a.f2, .slice B_3 a.f3.length B_c3, .slice B_4 a.f4.length B_c4]]) (by simp [results, Try.results65, go_sem, z0, z1, z2, z3, z4, y0, y1, y2, y3, y4]) rfl ?_
    exact ⟨_, _, _, _, _, _, _, _, rfl, FA'.out, FB'.out, BB'.out⟩
  have t1 : (v == 1) = false := beq_eq_false_iff_ne.mpr v1
  by_cases v2 : v = 2
  · have t2 : (v == 2) = true := beq_iff_eq.mpr v2
    refine ⟨a, a, hat, hat, ha0, ha3, fun A c w hr hc => ?_⟩
    have HAT := Lib.hid hat
    clear hs a1 b1 f1 a1s v2 v0 v1 ht1 hs1 ha0 ha3 hat n1
    go_enter Try.func65, Try.ntmps65
    go_wp2_with fail
    refine (HO.out A c w _ (below_step (below_new _ _) (below_new _ _)) hr hc).mono ?_
    rintro e w2 ⟨g, rfl, hi, hb, hb2⟩
    obtain ⟨kr2, kr3, hbw⟩ := two_new hb2
    have HD := Lib.hid (Dr.new hi hb)
    have HG2 := Lib.hid (show g ≠ w.heap.size from Q.IsS104.ne_blk hi kr2 (by decide))
    have HG3 := Lib.hid (show g ≠ w.heap.size + 1 from Q.IsS104.ne_blk hi kr3 (by decide))
    have HR2 := Lib.hid kr2
    have HR3 := Lib.hid kr3
    have HW2 := Lib.hid (show w.heap.size + 1 < w2.heap.size from blk_lt kr3)
    clear hi hb hb2 kr2 kr3 hbw
    go_wp2_with fail
    refine (of_lit (l := [(⟨#[120]⟩ : ByteArray), ⟨#[121]⟩]) rfl (by simp) HE1.out g w w2 HD.out.is HD.out.b).mono ?_
    rintro e w3 ⟨rfl, hi, hb, hk⟩
    replace HD := Lib.hid (HD.out.call hi hb hk)
    clear hi hb hk
    go_wp2_with fail
    refine (l1Name_any nm w3).mono ?_
    rintro e w4 ⟨rfl, hb⟩
    replace HD := Lib.hid (HD.out.later hb)
    clear hb
    go_wp2_with fail
    refine (HS1.out g none 0 none 0 w w4 HD.out.is HD.out.b (lnm_in nm w4)).mono ?_
    intro e w5 hp
    obtain ⟨A_3, A_c3, A_4, A_c4, rfl, hf, hi, hb, hk⟩ := hp.get
    have HF2 := Lib.hid hf
    have HL2 := Lib.hid (show g < w4.heap.size from HD.out.ltW)
    have HW4 := Lib.hid (show w2.heap.size ≤ w4.heap.size from HD.out.size)
    have HW5 := Lib.hid (show w2.heap.size ≤ w5.heap.size from Nat.le_trans HD.out.size hk.1)
    replace HD := Lib.hid (HD.out.call hi hb hk)
    clear hi hb hk hf hp
    go_wp2_with fail
    refine (pick_at HE2.out g w _ (HD.out.later (below_new _ _)).is (HD.out.later (below_new _ _)).b).mono ?_
    rintro e w6 ⟨rfl, hi, hb, hk⟩
    have HD5 := Lib.hid ((HD.out.later (below_new _ (.cells #[.int .i64 a.f0, .string a.f1, .int .i64 a.f2, .slice A_3 a.f3.length A_c3, .slice A_4 a.f4.length A_c4] 31))).call hi hb hk)
    have HG5 := Lib.hid (show w5.heap.size ≠ g from by have := HL2.out; have := HD.out.size; have := HD.out.lt; have := HW5.out; omega)
    have HK5 := Lib.hid (show w6.heap[w5.heap.size]? = some (.cells #[.int .i64 a.f0, .string a.f1, .int .i64 a.f2, .slice A_3 a.f3.length A_c3, .slice A_4 a.f4.length A_c4] 31) from hk.blk (blk_new w5 _) HG5.out (by simp))
    have HF6 := Lib.hid ((HF2.out.later (below_new _ (.cells #[.int .i64 a.f0, .string a.f1, .int .i64 a.f2, .slice A_3 a.f3.length A_c3, .slice A_4 a.f4.length A_c4] 31))).keep hk HL2.out)
    clear hi hb hk
    go_wp2_with fail
    have HDD := Lib.hid (HD5.out.later (below_drew (Below.refl _ _)))
    have HKD := Lib.hid (blk_drew HK5.out)
    have HRD2 := Lib.hid (blk_drew (HD5.out.kp.blk HR2.out (fun e => HG2.out e.symm) (by simp)))
    have HRD3 := Lib.hid (blk_drew (HD5.out.kp.blk HR3.out (fun e => HG3.out e.symm) (by simp)))
    have HFD := Lib.hid (HF6.out.later (below_drew (Below.refl _ _)))
    refine start_ (n := 5) (S := (fun W : World => W.cell? ⟨w5.heap.size, 0, none⟩ = some (.int .i64 a.f0) ∧ W.cell? ⟨w5.heap.size, 1, none⟩ = some (.string a.f1) ∧ W.cell? ⟨w5.heap.size, 2, none⟩ = some (.int .i64 a.f2) ∧ W.cell? ⟨w5.heap.size, 3, none⟩ = some (.slice A_3 a.f3.length A_c3) ∧ W.cell? ⟨w5.heap.size, 4, none⟩ = some (.slice A_4 a.f4.length A_c4))) (ds := []) #[false, false, false, false, false] (by kernel_rfl) rfl rfl (fm_cells HKD.out) (fun hHeld => ?_)
    generalize w6.drew = wd at HDD HKD HRD2 HRD3 HFD hHeld ⊢
    refine take_ (i := 0) (N := some 26) (v := ?_) (a' := ?_) #[true, false, false, false, false] rfl rfl (by kernel_rfl) (fun _ _ _ h => h) (Or.inl ⟨by rfl, ?_⟩) hHeld ?_ ?_
    rotate_left
    · rintro w' ⟨s0, s1, s2, s3, s4⟩
      go_simp
      with_reducible rfl
    rotate_left
    · simp only [Act.put, List.setIfInBounds_toArray, List.set_cons_zero, List.set_cons_succ, i64_w, i32_w]
      rfl
    refine take_ (i := 1) (N := some 27) (v := ?_) (a' := ?_) #[true, true, false, false, false] rfl rfl (by kernel_rfl) (fun _ _ _ h => h) (Or.inl ⟨by rfl, ?_⟩) hHeld ?_ ?_
    rotate_left
    · rintro w' ⟨s0, s1, s2, s3, s4⟩
      go_simp
      with_reducible rfl
    rotate_left
    · simp only [Act.put, List.setIfInBounds_toArray, List.set_cons_zero, List.set_cons_succ, i64_w, i32_w]
      rfl
    refine one_ (i := 2) (N := some 28) #[true, true, true, false, false] rfl rfl (by kernel_rfl) (by decide) (fun K hK => ?_)
    refine goes_ Try.func120 (by kernel_rfl) rfl #[.agg #[.int .i64 a.f0, .string a.f1, .int .i64 a.f2, .slice A_3 a.f3.length A_c3, .slice A_4 a.f4.length A_c4]] (by rfl) rfl rfl (by (try simp only [List.map_toArray, List.map_cons, List.map_nil]); first | done | rfl) ?_
    refine (l1Copy_any a A_3 A_c3 A_4 A_c4 wd HFD.out.now (by have := HAT.out; omega)).mono ?_
    rintro e w9 ⟨v3, v4, rfl, hn, hb0⟩
    obtain ⟨B_3, B_c3, B_4, B_c4, rfl, rfl, hf⟩ := NewF.toS hn
    have HFB := Lib.hid hf
    have HLB := Lib.hid (show w.heap.size + 1 < wd.heap.size from by have := HDD.out.size; have := HW2.out; omega)
    have HD9 := HDD.out.later hb0
    have hi := HD9.is
    have hb := HD9.b
    have hk := KeepBut.of_below hb0 g none
    clear hf hn HD9 hb0
    refine ⟨_, rfl, ?_⟩
    replace HKD := Lib.hid (hk.blk HKD.out HG5.out (by simp))
    replace HRD2 := Lib.hid (hk.blk HRD2.out (fun e => HG2.out e.symm) (by simp))
    replace HRD3 := Lib.hid (hk.blk HRD3.out (fun e => HG3.out e.symm) (by simp))
    replace HFD := Lib.hid (HFD.out.keep hk HL2.out)
    replace HDD := Lib.hid (HDD.out.call hi hb hk)
    clear hi hb hk
    refine hK.out _ _ (fm_cells HKD.out) (fun hHeld => ?_)
    clear hK K
    refine norm_ (a' := ?_) ?_ ?_
    rotate_left
    · show Act.put _ (some 28) _ = _
      simp only [Act.put, List.setIfInBounds_toArray, List.set_cons_zero, List.set_cons_succ, i64_w, i32_w]
      rfl
    obtain ⟨z0, z1, z2, z3, z4⟩ := fm_cells HRD2.out
    obtain ⟨f0, f1, f2, f3, f4⟩ := fm_free HRD2.out
    obtain ⟨st1, st2, st3⟩ := st5 HRD2.out (.int .i64 a.f0) (.string a.f1) (.int .i64 a.f2) (.slice A_3 a.f3.length A_c3) (.slice A_4 a.f4.length A_c4)
    have hn5 : w5.heap.size ≠ w.heap.size := by have := HW2.out; have := HW5.out; omega
    have hn6 : w5.heap.size ≠ w.heap.size + 1 := by have := HW2.out; have := HW5.out; omega
    have K5 := Lib.hid ((st2 w5.heap.size hn5).trans HKD.out)
    have R3 := Lib.hid ((st2 (w.heap.size + 1) (by omega)).trans HRD3.out)
    have R2 := Lib.hid st1
    have FA := Lib.hid (HFD.out.move (st3 0 w9 (Below.refl 0 _) (Nat.zero_le _)).size (fun b h1 h2 => st2 b (by have := HW2.out; have := HW4.out; omega)))
    have FB := Lib.hid (HFB.out.move (st3 0 w9 (Below.refl 0 _) (Nat.zero_le _)).size (fun b h1 h2 => st2 b (by have := HLB.out; omega)))
    have BB := Lib.hid (st3 _ _ HDD.out.b (Nat.le_refl _))
    clear st1 st2 st3
    refine one_ (i := 3) (N := none) #[true, true, true, true, false] rfl rfl (by kernel_rfl) (by decide) (fun K hK => ?_)
    refine skip_ (w1 := ?_) (by rfl) rfl ?_ ?_
    rotate_left
    · go_simp
      rfl
    refine hK.out _ _ (fm_cells K5.out) (fun hHeld => ?_)
    clear hK K z0 z1 z2 z3 z4 f0 f1 f2 f3 f4
    generalize World.setCell (World.setCell (World.setCell (World.setCell (World.setCell w9 _ _) _ _) _ _) _ _) _ _ = wx at K5 R3 R2 FA FB BB hHeld ⊢
    obtain ⟨z0, z1, z2, z3, z4⟩ := fm_cells R3.out
    obtain ⟨f0, f1, f2, f3, f4⟩ := fm_free R3.out
    obtain ⟨st1, st2, st3⟩ := st5 R3.out (.int .i64 a.f0) (.string a.f1) (.int .i64 a.f2) (.slice B_3 a.f3.length B_c3) (.slice B_4 a.f4.length B_c4)
    have K5' := Lib.hid ((st2 w5.heap.size hn6).trans K5.out)
    have R2' := Lib.hid ((st2 w.heap.size (by omega)).trans R2.out)
    have R3' := Lib.hid st1
    have FA' := Lib.hid (FA.out.move (st3 0 wx (Below.refl 0 _) (Nat.zero_le _)).size (fun b h1 h2 => st2 b (by have := HW2.out; have := HW4.out; omega))).now
    have FB' := Lib.hid (FB.out.move (st3 0 wx (Below.refl 0 _) (Nat.zero_le _)).size (fun b h1 h2 => st2 b (by have := HLB.out; omega))).now
    have BB' := Lib.hid (st3 _ _ BB.out (by omega))
    clear st1 st2 st3 FA FB BB R2 K5 R3
    refine one_ (i := 4) (N := none) #[true, true, true, true, true] rfl rfl (by kernel_rfl) (by decide) (fun K hK => ?_)
    refine skip_ (w1 := ?_) (by rfl) rfl ?_ ?_
    rotate_left
    · go_simp
      rfl
    refine hK.out _ _ (fm_cells K5'.out) (fun hHeld => ?_)
    clear hK K z0 z1 z2 z3 z4 f0 f1 f2 f3 f4
    generalize World.setCell (World.setCell (World.setCell (World.setCell (World.setCell wx _ _) _ _) _ _) _ _) _ _ = wy at K5' R2' R3' FA' FB' BB' hHeld ⊢
    refine done_ (by kernel_rfl) ?_
    obtain ⟨z0, z1, z2, z3, z4⟩ := fm_cells R2'.out
    obtain ⟨y0, y1, y2, y3, y4⟩ := fm_cells R3'.out
    try go_wp2_with fail
    refine bodyPost_ret (v := .tuple #[.agg #[.int .i64 a.f0, .string a.f1, .int .i64 a.f2, .slice A_3 a.f3.length A_c3, .slice A_4 a.f4.length A_c4], .agg #[.int .i64 a.f0, .string a.f1, .int .i64 a.f2, .slice B_3 a.f3.length B_c3, .slice B_4 a.f4.length B_c4]]) (by simp [results, Try.results65, go_sem, z0, z1, z2, z3, z4, y0, y1, y2, y3, y4]) rfl ?_
    exact ⟨_, _, _, _, _, _, _, _, rfl, FA'.out, FB'.out, BB'.out⟩
  have t2 : (v == 2) = false := beq_eq_false_iff_ne.mpr v2
  obtain ⟨nm2, hnm2, e3⟩ := ev_of hs (q1 + 1) (by omega) [(⟨#[120]⟩ : ByteArray), ⟨#[121]⟩] (by simp) (by simp)
  have n2 := nm_small hnm2
  have ht2 : (lnm nm2).tot = nm2.size + 0 + 0 := Fm.tot_eq _
  have hs2 : (lnm nm2).size = 1 + 0 := Fm.size_eq _
  obtain ⟨b, q3, a3, b3, _, f3, k2⟩ := dress_ex hs (lnm nm2) (by omega) (q1 + 1 + 1) (by omega)
  refine ⟨a, b, hat, by omega, ha0, ha3, fun A c w hr hc => ?_⟩
  have HE3 := Lib.hid e3
  have K2 := Lib.hid k2
  clear k2 e3 hs a1 b1 a3 b3 f1 f3 hnm2 a1s v0 v1 v2 ht1 hs1 ht2 hs2 ha0 ha3 hat n1 n2
  go_enter Try.func65, Try.ntmps65
  go_wp2_with fail
  refine (HO.out A c w _ (below_step (below_new _ _) (below_new _ _)) hr hc).mono ?_
  rintro e w2 ⟨g, rfl, hi, hb, hb2⟩
  obtain ⟨kr2, kr3, hbw⟩ := two_new hb2
  have HD := Lib.hid (Dr.new hi hb)
  have HG2 := Lib.hid (show g ≠ w.heap.size from Q.IsS104.ne_blk hi kr2 (by decide))
  have HG3 := Lib.hid (show g ≠ w.heap.size + 1 from Q.IsS104.ne_blk hi kr3 (by decide))
  have HR2 := Lib.hid kr2
  have HR3 := Lib.hid kr3
  have HW2 := Lib.hid (show w.heap.size + 1 < w2.heap.size from blk_lt kr3)
  clear hi hb hb2 kr2 kr3 hbw
  go_wp2_with fail
  refine (of_lit (l := [(⟨#[120]⟩ : ByteArray), ⟨#[121]⟩]) rfl (by simp) HE1.out g w w2 HD.out.is HD.out.b).mono ?_
  rintro e w3 ⟨rfl, hi, hb, hk⟩
  replace HD := Lib.hid (HD.out.call hi hb hk)
  clear hi hb hk
  go_wp2_with fail
  refine (l1Name_any nm w3).mono ?_
  rintro e w4 ⟨rfl, hb⟩
  replace HD := Lib.hid (HD.out.later hb)
  clear hb
  go_wp2_with fail
  refine (HS1.out g none 0 none 0 w w4 HD.out.is HD.out.b (lnm_in nm w4)).mono ?_
  intro e w5 hp
  obtain ⟨A_3, A_c3, A_4, A_c4, rfl, hf, hi, hb, hk⟩ := hp.get
  have HF2 := Lib.hid hf
  have HL2 := Lib.hid (show g < w4.heap.size from HD.out.ltW)
  have HW4 := Lib.hid (show w2.heap.size ≤ w4.heap.size from HD.out.size)
  have HW5 := Lib.hid (show w2.heap.size ≤ w5.heap.size from Nat.le_trans HD.out.size hk.1)
  replace HD := Lib.hid (HD.out.call hi hb hk)
  clear hi hb hk hf hp
  go_wp2_with fail
  refine (pick_at HE2.out g w _ (HD.out.later (below_new _ _)).is (HD.out.later (below_new _ _)).b).mono ?_
  rintro e w6 ⟨rfl, hi, hb, hk⟩
  have HD5 := Lib.hid ((HD.out.later (below_new _ (.cells #[.int .i64 a.f0, .string a.f1, .int .i64 a.f2, .slice A_3 a.f3.length A_c3, .slice A_4 a.f4.length A_c4] 31))).call hi hb hk)
  have HG5 := Lib.hid (show w5.heap.size ≠ g from by have := HL2.out; have := HD.out.size; have := HD.out.lt; have := HW5.out; omega)
  have HK5 := Lib.hid (show w6.heap[w5.heap.size]? = some (.cells #[.int .i64 a.f0, .string a.f1, .int .i64 a.f2, .slice A_3 a.f3.length A_c3, .slice A_4 a.f4.length A_c4] 31) from hk.blk (blk_new w5 _) HG5.out (by simp))
  have HF6 := Lib.hid ((HF2.out.later (below_new _ (.cells #[.int .i64 a.f0, .string a.f1, .int .i64 a.f2, .slice A_3 a.f3.length A_c3, .slice A_4 a.f4.length A_c4] 31))).keep hk HL2.out)
  clear hi hb hk
  go_wp2_with fail
  have HDD := Lib.hid (HD5.out.later (below_drew (Below.refl _ _)))
  have HKD := Lib.hid (blk_drew HK5.out)
  have HRD2 := Lib.hid (blk_drew (HD5.out.kp.blk HR2.out (fun e => HG2.out e.symm) (by simp)))
  have HRD3 := Lib.hid (blk_drew (HD5.out.kp.blk HR3.out (fun e => HG3.out e.symm) (by simp)))
  have HFD := Lib.hid (HF6.out.later (below_drew (Below.refl _ _)))
  refine start_ (n := 9) (S := (fun W : World => W.cell? ⟨w5.heap.size, 0, none⟩ = some (.int .i64 a.f0) ∧ W.cell? ⟨w5.heap.size, 1, none⟩ = some (.string a.f1) ∧ W.cell? ⟨w5.heap.size, 2, none⟩ = some (.int .i64 a.f2) ∧ W.cell? ⟨w5.heap.size, 3, none⟩ = some (.slice A_3 a.f3.length A_c3) ∧ W.cell? ⟨w5.heap.size, 4, none⟩ = some (.slice A_4 a.f4.length A_c4))) (ds := []) #[false, false, false, false, false, false, false, false, false] (by kernel_rfl) rfl rfl (fm_cells HKD.out) (fun hHeld => ?_)
  generalize w6.drew = wd at HDD HKD HRD2 HRD3 HFD hHeld ⊢
  refine take_ (i := 0) (N := some 29) (v := ?_) (a' := ?_) #[true, false, false, false, false, false, false, false, false] rfl rfl (by kernel_rfl) (fun _ _ _ h => h) (Or.inl ⟨by rfl, ?_⟩) hHeld ?_ ?_
  rotate_left
  · rintro w' ⟨s0, s1, s2, s3, s4⟩
    go_simp
    with_reducible rfl
  rotate_left
  · simp only [Act.put, List.setIfInBounds_toArray, List.set_cons_zero, List.set_cons_succ, i64_w, i32_w]
    rfl
  refine pure_ (i := 1) (N := some 30) (v := ?_) (a' := ?_) #[true, true, false, false, false, false, false, false, false] rfl rfl (by kernel_rfl) (fun _ _ _ h => h) (Or.inl ⟨by rfl, ?_⟩) ?_ ?_
  rotate_left
  · intro w'
    go_simp
    with_reducible rfl
  rotate_left
  · simp only [Act.put, List.setIfInBounds_toArray, List.set_cons_zero, List.set_cons_succ, i64_w, i32_w]
    rfl
  refine pure_ (i := 2) (N := some 31) (v := ?_) (a' := ?_) #[true, true, true, false, false, false, false, false, false] rfl rfl (by kernel_rfl) (fun _ _ _ h => h) (Or.inl ⟨by rfl, ?_⟩) ?_ ?_
  rotate_left
  · intro w'
    go_simp
    with_reducible rfl
  rotate_left
  · simp only [Act.put, List.setIfInBounds_toArray, List.set_cons_zero, List.set_cons_succ, i64_w, i32_w]
    rfl
  refine one_ (i := 3) (N := some 32) #[true, true, true, true, false, false, false, false, false] rfl rfl (by kernel_rfl) (by decide) (fun K hK => ?_)
  refine value_ (w1 := ?_) (v := ?_) (by rfl) rfl ?_ ?_
  rotate_left 2
  · go_simp
    constructor
    · rfl
    · rfl
  refine hK.out _ _ (fm_cells (blk_alloc HKD.out _)) (fun hHeld => ?_)
  clear hK K
  refine norm_ (a' := ?_) ?_ ?_
  rotate_left
  · show Act.put _ (some 32) _ = _
    simp only [Act.put, List.setIfInBounds_toArray, List.set_cons_zero, List.set_cons_succ, i64_w, i32_w]
    rfl
  refine one_ (i := 4) (N := some 33) #[true, true, true, true, true, false, false, false, false] rfl rfl (by kernel_rfl) (by decide) (fun K hK => ?_)
  refine goes_ Try.func131 (by kernel_rfl) rfl #[.pointer (some ⟨g, 0, none⟩), .slice (some ⟨wd.heap.size, 0, none⟩) 2 2] (by rfl) rfl rfl (by (try simp only [List.map_toArray, List.map_cons, List.map_nil]); first | done | rfl) ?_
  refine (of_lit (l := [(⟨#[120]⟩ : ByteArray), ⟨#[121]⟩]) rfl (by simp) HE3.out g w wd HDD.out.is HDD.out.b).mono ?_
  rintro e w9 ⟨rfl, hi, hb, hk⟩
  refine ⟨_, rfl, ?_⟩
  replace HKD := Lib.hid (hk.blk HKD.out HG5.out (by simp))
  replace HRD2 := Lib.hid (hk.blk HRD2.out (fun e => HG2.out e.symm) (by simp))
  replace HRD3 := Lib.hid (hk.blk HRD3.out (fun e => HG3.out e.symm) (by simp))
  replace HFD := Lib.hid (HFD.out.keep hk HL2.out)
  replace HDD := Lib.hid (HDD.out.call hi hb hk)
  clear hi hb hk
  refine hK.out _ _ (fm_cells HKD.out) (fun hHeld => ?_)
  clear hK K
  refine norm_ (a' := ?_) ?_ ?_
  rotate_left
  · show Act.put _ (some 33) _ = _
    simp only [Act.put, List.setIfInBounds_toArray, List.set_cons_zero, List.set_cons_succ, i64_w, i32_w]
    rfl
  refine one_ (i := 5) (N := some 34) #[true, true, true, true, true, true, false, false, false] rfl rfl (by kernel_rfl) (by decide) (fun K hK => ?_)
  refine goes_ Try.func114 (by kernel_rfl) rfl #[.string nm2] (by rfl) rfl rfl (by (try simp only [List.map_toArray, List.map_cons, List.map_nil]); first | done | rfl) ?_
  refine (l1Name_any nm2 w9).mono ?_
  rintro e w10 ⟨rfl, hb0⟩
  have HD9 := HDD.out.later hb0
  have hi := HD9.is
  have hb := HD9.b
  have hk := KeepBut.of_below hb0 g none
  clear HD9 hb0
  refine ⟨_, rfl, ?_⟩
  replace HKD := Lib.hid (hk.blk HKD.out HG5.out (by simp))
  replace HRD2 := Lib.hid (hk.blk HRD2.out (fun e => HG2.out e.symm) (by simp))
  replace HRD3 := Lib.hid (hk.blk HRD3.out (fun e => HG3.out e.symm) (by simp))
  replace HFD := Lib.hid (HFD.out.keep hk HL2.out)
  replace HDD := Lib.hid (HDD.out.call hi hb hk)
  clear hi hb hk
  refine hK.out _ _ (fm_cells HKD.out) (fun hHeld => ?_)
  clear hK K
  refine norm_ (a' := ?_) ?_ ?_
  rotate_left
  · show Act.put _ (some 34) _ = _
    simp only [Act.put, List.setIfInBounds_toArray, List.set_cons_zero, List.set_cons_succ, i64_w, i32_w]
    rfl
  refine one_ (i := 6) (N := some 35) #[true, true, true, true, true, true, true, false, false] rfl rfl (by kernel_rfl) (by decide) (fun K hK => ?_)
  refine goes_ Try.func113 (by kernel_rfl) rfl #[.pointer (some ⟨g, 0, none⟩), .agg #[.int .i64 1, .string nm2, .int .i64 0, .slice none 0 0, .slice none 0 0]] (by rfl) rfl rfl (by (try simp only [List.map_toArray, List.map_cons, List.map_nil]); first | done | rfl) ?_
  refine (K2.out g none 0 none 0 w w10 HDD.out.is HDD.out.b (lnm_in nm2 w10)).mono ?_
  intro e w11 hp
  obtain ⟨B_3, B_c3, B_4, B_c4, rfl, hf, hi, hb, hk⟩ := hp.get
  have HFB := Lib.hid hf
  have HLB := Lib.hid (show w.heap.size + 1 < w10.heap.size from by have := HDD.out.size; have := HW2.out; omega)
  clear hf hp
  refine ⟨_, rfl, ?_⟩
  replace HKD := Lib.hid (hk.blk HKD.out HG5.out (by simp))
  replace HRD2 := Lib.hid (hk.blk HRD2.out (fun e => HG2.out e.symm) (by simp))
  replace HRD3 := Lib.hid (hk.blk HRD3.out (fun e => HG3.out e.symm) (by simp))
  replace HFD := Lib.hid (HFD.out.keep hk HL2.out)
  replace HDD := Lib.hid (HDD.out.call hi hb hk)
  clear hi hb hk
  refine hK.out _ _ (fm_cells HKD.out) (fun hHeld => ?_)
  clear hK K
  refine norm_ (a' := ?_) ?_ ?_
  rotate_left
  · show Act.put _ (some 35) _ = _
    simp only [Act.put, List.setIfInBounds_toArray, List.set_cons_zero, List.set_cons_succ, i64_w, i32_w]
    rfl
  obtain ⟨z0, z1, z2, z3, z4⟩ := fm_cells HRD2.out
  obtain ⟨f0, f1, f2, f3, f4⟩ := fm_free HRD2.out
  obtain ⟨st1, st2, st3⟩ := st5 HRD2.out (.int .i64 a.f0) (.string a.f1) (.int .i64 a.f2) (.slice A_3 a.f3.length A_c3) (.slice A_4 a.f4.length A_c4)
  have hn5 : w5.heap.size ≠ w.heap.size := by have := HW2.out; have := HW5.out; omega
  have hn6 : w5.heap.size ≠ w.heap.size + 1 := by have := HW2.out; have := HW5.out; omega
  have K5 := Lib.hid ((st2 w5.heap.size hn5).trans HKD.out)
  have R3 := Lib.hid ((st2 (w.heap.size + 1) (by omega)).trans HRD3.out)
  have R2 := Lib.hid st1
  have FA := Lib.hid (HFD.out.move (st3 0 w11 (Below.refl 0 _) (Nat.zero_le _)).size (fun b h1 h2 => st2 b (by have := HW2.out; have := HW4.out; omega)))
  have FB := Lib.hid (HFB.out.move (st3 0 w11 (Below.refl 0 _) (Nat.zero_le _)).size (fun b h1 h2 => st2 b (by have := HLB.out; omega)))
  have BB := Lib.hid (st3 _ _ HDD.out.b (Nat.le_refl _))
  clear st1 st2 st3
  refine one_ (i := 7) (N := none) #[true, true, true, true, true, true, true, true, false] rfl rfl (by kernel_rfl) (by decide) (fun K hK => ?_)
  refine skip_ (w1 := ?_) (by rfl) rfl ?_ ?_
  rotate_left
  · go_simp
    rfl
  refine hK.out _ _ (fm_cells K5.out) (fun hHeld => ?_)
  clear hK K z0 z1 z2 z3 z4 f0 f1 f2 f3 f4
  generalize World.setCell (World.setCell (World.setCell (World.setCell (World.setCell w11 _ _) _ _) _ _) _ _) _ _ = wx at K5 R3 R2 FA FB BB hHeld ⊢
  obtain ⟨z0, z1, z2, z3, z4⟩ := fm_cells R3.out
  obtain ⟨f0, f1, f2, f3, f4⟩ := fm_free R3.out
  obtain ⟨st1, st2, st3⟩ := st5 R3.out (.int .i64 b.f0) (.string b.f1) (.int .i64 b.f2) (.slice B_3 b.f3.length B_c3) (.slice B_4 b.f4.length B_c4)
  have K5' := Lib.hid ((st2 w5.heap.size hn6).trans K5.out)
  have R2' := Lib.hid ((st2 w.heap.size (by omega)).trans R2.out)
  have R3' := Lib.hid st1
  have FA' := Lib.hid (FA.out.move (st3 0 wx (Below.refl 0 _) (Nat.zero_le _)).size (fun b h1 h2 => st2 b (by have := HW2.out; have := HW4.out; omega))).now
  have FB' := Lib.hid (FB.out.move (st3 0 wx (Below.refl 0 _) (Nat.zero_le _)).size (fun b h1 h2 => st2 b (by have := HLB.out; omega))).now
  have BB' := Lib.hid (st3 _ _ BB.out (by omega))
  clear st1 st2 st3 FA FB BB R2 K5 R3
  refine one_ (i := 8) (N := none) #[true, true, true, true, true, true, true, true, true] rfl rfl (by kernel_rfl) (by decide) (fun K hK => ?_)
  refine skip_ (w1 := ?_) (by rfl) rfl ?_ ?_
  rotate_left
  · go_simp
    rfl
  refine hK.out _ _ (fm_cells K5'.out) (fun hHeld => ?_)
  clear hK K z0 z1 z2 z3 z4 f0 f1 f2 f3 f4
  generalize World.setCell (World.setCell (World.setCell (World.setCell (World.setCell wx _ _) _ _) _ _) _ _) _ _ = wy at K5' R2' R3' FA' FB' BB' hHeld ⊢
  refine done_ (by kernel_rfl) ?_
  obtain ⟨z0, z1, z2, z3, z4⟩ := fm_cells R2'.out
  obtain ⟨y0, y1, y2, y3, y4⟩ := fm_cells R3'.out
  try go_wp2_with fail
  refine bodyPost_ret (v := .tuple #[.agg #[.int .i64 a.f0, .string a.f1, .int .i64 a.f2, .slice A_3 a.f3.length A_c3, .slice A_4 a.f4.length A_c4], .agg #[.int .i64 b.f0, .string b.f1, .int .i64 b.f2, .slice B_3 b.f3.length B_c3, .slice B_4 b.f4.length B_c4]]) (by simp [results, Try.results65, go_sem, z0, z1, z2, z3, z4, y0, y1, y2, y3, y4]) rfl ?_
  exact ⟨_, _, _, _, _, _, _, _, rfl, FA'.out, FB'.out, BB'.out⟩
end Go.Proofs.Yteonncnhhccgeaa
end
section
-- PRINTED WORDS (module Derived/Print/Sized.lean): go-gate-2's, for the rows of laws over slices: an AI agent of Go's test side, Tue Nov 17 2026; no person has read it. Lean checks it.
namespace Go.Proofs.YteonncnhhccgeaaW.PrintWords
open Go.ChangeShapes Go.WideShapes
/-- A row's slice of whole numbers is no longer than its weight allows. -/
theorem sized_ints {H : Type} {enc : TypeId × Value → H} {P : Program} {W : World} {base : Nat} {spare : Nat → Bool} {held : Bool} {t e : TypeId} {k : IntKind} {a : Option Addr} {len cap : Nat} {d : DataW H} {ps : List MemPlace} {ts : List TypeId} {ds : List (DataW H)} {j : Nat}
    (hsz : (DataW.weightsEach P ts ds).all (· ≤ reachBytes) = true) (ht : ts[j]? = some t) (hd : ds[j]? = some d) (hu : P.underlying t = some (.slice e)) (he : P.underlying e = some (.int k)) (hc : P.cellsOf e = 1) {B : Nat} (hB : P.bytesOf e = B)
    (h : DataW.Trod enc P W base spare held t (.slice a len cap) d ps) : len * B ≤ 140737488351232 := by
  obtain ⟨fuel, hf⟩ := h
  rcases open_ints hu he hc hf with ⟨hcs, _⟩ | ⟨x, l, c, zs, hcs, _, hl, _, hz, hx, _, _⟩
  · simp [Value.cells] at hcs
    obtain ⟨rfl, rfl, rfl⟩ := hcs
    simp
  · simp [Value.cells] at hcs
    obtain ⟨rfl, rfl, rfl⟩ := hcs
    obtain ⟨hx, _⟩ := Prod.mk.inj hx
    subst hx
    have z := sized_slice hsz ht hd hu
    rw [hB] at z
    have hl2 : len ≤ zs.length := by
      rw [hz]
      split
      · exact hl
      · exact Nat.le_refl _
    have h1 : (lits (H := H) k (zs.take len)).length + (lits (H := H) k (zs.drop len)).length = zs.length := by
      simp [lits]
      omega
    rw [h1] at z
    exact Nat.le_trans (Nat.mul_le_mul_right _ hl2) z
end Go.Proofs.YteonncnhhccgeaaW.PrintWords
end
section
namespace Go.Proofs.Yteonncnhhccgeaa
open Go.RowKit Go.Proofs.YteonncnhhccgeaaW.PrintWords Go.Proofs.YteonncnhhccgeaaW.PrintLast Go.Proofs.YteonncnhhccgeaaW.PrintMore
set_option linter.unusedVariables false
set_option linter.unusedSimpArgs false
abbrev setsW : List (List Int) := [([] : List Int), ([1] : List Int), ([2] : List Int), ([1, 2] : List Int), ([1, 3] : List Int), ([1, 2, 3] : List Int), ([3, 1] : List Int)]
theorem setsW_len : ∀ z, z ∈ setsW → z.length ≤ 3 := by
  intro z hz
  simp only [setsW, List.mem_cons, List.not_mem_nil, or_false] at hz
  rcases hz with h | h | h | h | h | h | h <;> simp [h]
/-- The seven sets, laid one behind the other from block B on, and the row of them. -/
theorem setsW_lit {U : World} {B : Nat} (hB : U.heap.size = B) (j : Nat) (hj : j < 7) : ∃ A c, (setsW[j]'hj).length ≤ c ∧ ∀ W2 : World, (∀ b, B ≤ b → b < B + 8 → W2.heap[b]? = ((((((((U.alloc (.cells #[] 3)).alloc (.cells #[.int .i64 1] 3)).alloc (.cells #[.int .i64 2] 3)).alloc (.cells #[.int .i64 1, .int .i64 2] 3)).alloc (.cells #[.int .i64 1, .int .i64 3] 3)).alloc (.cells #[.int .i64 1, .int .i64 2, .int .i64 3] 3)).alloc (.cells #[.int .i64 3, .int .i64 1] 3)).alloc (.cells #[.slice (some ⟨B, 0, none⟩) 0 0, .slice (some ⟨B + 1, 0, none⟩) 1 1, .slice (some ⟨B + 1 + 1, 0, none⟩) 1 1, .slice (some ⟨B + 1 + 1 + 1, 0, none⟩) 2 2, .slice (some ⟨B + 1 + 1 + 1 + 1, 0, none⟩) 2 2, .slice (some ⟨B + 1 + 1 + 1 + 1 + 1, 0, none⟩) 3 3, .slice (some ⟨B + 1 + 1 + 1 + 1 + 1 + 1, 0, none⟩) 2 2] 23)).heap[b]?) →
    W2.cell? ⟨B + 1 + 1 + 1 + 1 + 1 + 1 + 1, j, none⟩ = some (.slice A (setsW[j]'hj).length c) ∧ kI.C W2 A (setsW[j]'hj).length (setsW[j]'hj) := by
  subst hB
  have key : ∀ W2 : World, (∀ b, U.heap.size ≤ b → b < U.heap.size + 8 → W2.heap[b]? = ((((((((U.alloc (.cells #[] 3)).alloc (.cells #[.int .i64 1] 3)).alloc (.cells #[.int .i64 2] 3)).alloc (.cells #[.int .i64 1, .int .i64 2] 3)).alloc (.cells #[.int .i64 1, .int .i64 3] 3)).alloc (.cells #[.int .i64 1, .int .i64 2, .int .i64 3] 3)).alloc (.cells #[.int .i64 3, .int .i64 1] 3)).alloc (.cells #[.slice (some ⟨U.heap.size, 0, none⟩) 0 0, .slice (some ⟨U.heap.size + 1, 0, none⟩) 1 1, .slice (some ⟨U.heap.size + 1 + 1, 0, none⟩) 1 1, .slice (some ⟨U.heap.size + 1 + 1 + 1, 0, none⟩) 2 2, .slice (some ⟨U.heap.size + 1 + 1 + 1 + 1, 0, none⟩) 2 2, .slice (some ⟨U.heap.size + 1 + 1 + 1 + 1 + 1, 0, none⟩) 3 3, .slice (some ⟨U.heap.size + 1 + 1 + 1 + 1 + 1 + 1, 0, none⟩) 2 2] 23)).heap[b]?) → W2.heap[U.heap.size]? = some (.cells #[] 3 (0, 0)) ∧ W2.heap[U.heap.size + 1]? = some (.cells #[.int .i64 1] 3 (0, 0)) ∧ W2.heap[U.heap.size + 1 + 1]? = some (.cells #[.int .i64 2] 3 (0, 0)) ∧ W2.heap[U.heap.size + 1 + 1 + 1]? = some (.cells #[.int .i64 1, .int .i64 2] 3 (0, 0)) ∧ W2.heap[U.heap.size + 1 + 1 + 1 + 1]? = some (.cells #[.int .i64 1, .int .i64 3] 3 (0, 0)) ∧ W2.heap[U.heap.size + 1 + 1 + 1 + 1 + 1]? = some (.cells #[.int .i64 1, .int .i64 2, .int .i64 3] 3 (0, 0)) ∧ W2.heap[U.heap.size + 1 + 1 + 1 + 1 + 1 + 1]? = some (.cells #[.int .i64 3, .int .i64 1] 3 (0, 0)) ∧ W2.heap[U.heap.size + 1 + 1 + 1 + 1 + 1 + 1 + 1]? = some (.cells #[.slice (some ⟨U.heap.size, 0, none⟩) 0 0, .slice (some ⟨U.heap.size + 1, 0, none⟩) 1 1, .slice (some ⟨U.heap.size + 1 + 1, 0, none⟩) 1 1, .slice (some ⟨U.heap.size + 1 + 1 + 1, 0, none⟩) 2 2, .slice (some ⟨U.heap.size + 1 + 1 + 1 + 1, 0, none⟩) 2 2, .slice (some ⟨U.heap.size + 1 + 1 + 1 + 1 + 1, 0, none⟩) 3 3, .slice (some ⟨U.heap.size + 1 + 1 + 1 + 1 + 1 + 1, 0, none⟩) 2 2] 23 (0, 0)) := by
    intro W2 hW
    have h0 := hW (U.heap.size) (by omega) (by omega)
    have h1 := hW (U.heap.size + 1) (by omega) (by omega)
    have h2 := hW (U.heap.size + 2) (by omega) (by omega)
    have h3 := hW (U.heap.size + 3) (by omega) (by omega)
    have h4 := hW (U.heap.size + 4) (by omega) (by omega)
    have h5 := hW (U.heap.size + 5) (by omega) (by omega)
    have h6 := hW (U.heap.size + 6) (by omega) (by omega)
    have h7 := hW (U.heap.size + 7) (by omega) (by omega)
    clear hW
    simp only [alloc_at, alloc_size] at h0 h1 h2 h3 h4 h5 h6 h7
    repeat (first | rw [if_pos (by omega)] at h0 | rw [if_neg (by omega)] at h0)
    repeat (first | rw [if_pos (by omega)] at h1 | rw [if_neg (by omega)] at h1)
    repeat (first | rw [if_pos (by omega)] at h2 | rw [if_neg (by omega)] at h2)
    repeat (first | rw [if_pos (by omega)] at h3 | rw [if_neg (by omega)] at h3)
    repeat (first | rw [if_pos (by omega)] at h4 | rw [if_neg (by omega)] at h4)
    repeat (first | rw [if_pos (by omega)] at h5 | rw [if_neg (by omega)] at h5)
    repeat (first | rw [if_pos (by omega)] at h6 | rw [if_neg (by omega)] at h6)
    repeat (first | rw [if_pos (by omega)] at h7 | rw [if_neg (by omega)] at h7)
    exact ⟨h0, h1, h2, h3, h4, h5, h6, h7⟩
  have hcell : ∀ (W2 : World) (b : Nat) (cs : Array Value) (u : Value) (i : Nat) (e : TypeId), W2.heap[b]? = some (.cells cs e (0, 0)) → cs[i]? = some u → W2.cell? ⟨b, i, none⟩ = some u := fun W2 b cs u i e hb hu => (blk_cell hb i).trans hu
  rcases (show j = 0 ∨ j = 1 ∨ j = 2 ∨ j = 3 ∨ j = 4 ∨ j = 5 ∨ j = 6 by omega) with rfl | rfl | rfl | rfl | rfl | rfl | rfl
  · exact ⟨_, _, Nat.le_refl _, fun W2 hW => by obtain ⟨h0, h1, h2, h3, h4, h5, h6, h7⟩ := key W2 hW; exact ⟨hcell W2 _ _ _ _ _ h7 rfl, reads_block h0 (by simp) rfl⟩⟩
  · exact ⟨_, _, Nat.le_refl _, fun W2 hW => by obtain ⟨h0, h1, h2, h3, h4, h5, h6, h7⟩ := key W2 hW; exact ⟨hcell W2 _ _ _ _ _ h7 rfl, reads_block h1 (by simp) rfl⟩⟩
  · exact ⟨_, _, Nat.le_refl _, fun W2 hW => by obtain ⟨h0, h1, h2, h3, h4, h5, h6, h7⟩ := key W2 hW; exact ⟨hcell W2 _ _ _ _ _ h7 rfl, reads_block h2 (by simp) rfl⟩⟩
  · exact ⟨_, _, Nat.le_refl _, fun W2 hW => by obtain ⟨h0, h1, h2, h3, h4, h5, h6, h7⟩ := key W2 hW; exact ⟨hcell W2 _ _ _ _ _ h7 rfl, reads_block h3 (by simp) rfl⟩⟩
  · exact ⟨_, _, Nat.le_refl _, fun W2 hW => by obtain ⟨h0, h1, h2, h3, h4, h5, h6, h7⟩ := key W2 hW; exact ⟨hcell W2 _ _ _ _ _ h7 rfl, reads_block h4 (by simp) rfl⟩⟩
  · exact ⟨_, _, Nat.le_refl _, fun W2 hW => by obtain ⟨h0, h1, h2, h3, h4, h5, h6, h7⟩ := key W2 hW; exact ⟨hcell W2 _ _ _ _ _ h7 rfl, reads_block h5 (by simp) rfl⟩⟩
  · exact ⟨_, _, Nat.le_refl _, fun W2 hW => by obtain ⟨h0, h1, h2, h3, h4, h5, h6, h7⟩ := key W2 hW; exact ⟨hcell W2 _ _ _ _ _ h7 rfl, reads_block h6 (by simp) rfl⟩⟩
/-- Two sets are handed back. -/
def GetSets (w : World) (a b : List Int) (e : Ending) (w' : World) : Prop := ∃ A1 c1 A2 c2, e = .returned (.tuple #[.slice A1 a.length c1, .slice A2 b.length c2]) ∧ a.length ≤ c1 ∧ kI.C w' A1 a.length a ∧ b.length ≤ c2 ∧ kI.C w' A2 b.length b ∧ Below w.heap.size w w'
set_option maxHeartbeats 4000000 in
set_option maxRecDepth 100000 in
theorem drawWithin (l : List Int) (hl : ∀ z, z ∈ l → 0 ≤ z ∧ z < 256) : ∃ (a b : List Int), a.length ≤ 3 ∧ b.length ≤ 3 ∧ a ∈ setsW ∧ b ∈ setsW ∧ ∀ (A : Option Addr) (c : Nat) (w : World), (Kd.int .u8).C w A l.length l → l.length ≤ c → Calls Try.prog 27 #[.slice A l.length c] w (GetSets w a b) := by
  obtain ⟨s, hs, hopen⟩ := open_at l hl
  obtain ⟨v1, hv1, e1⟩ := ev_pick hs 0 (by omega) 7 (by omega)
  obtain ⟨j1, rfl⟩ := Int.eq_ofNat_of_zero_le (hv1 (by omega)).1
  have hj1 : j1 < 7 := by have := (hv1 (by omega)).2; omega
  obtain ⟨v2, hv2, e2⟩ := ev_pick hs 1 (by omega) 7 (by omega)
  obtain ⟨j2, rfl⟩ := Int.eq_ofNat_of_zero_le (hv2 (by omega)).1
  have hj2 : j2 < 7 := by have := (hv2 (by omega)).2; omega
  refine ⟨setsW[j1]'hj1, setsW[j2]'hj2, setsW_len _ (List.getElem_mem hj1), setsW_len _ (List.getElem_mem hj2), List.getElem_mem hj1, List.getElem_mem hj2, fun A c w hr hc => ?_⟩
  have KY0 := Lib.hid (fun (w2 : World) => And.intro (setsW_lit (U := w2) rfl j1 hj1) (setsW_lit (U := w2) rfl j2 hj2))
  generalize setsW[j1]'hj1 = sa at KY0 ⊢
  generalize setsW[j2]'hj2 = sb at KY0 ⊢
  have q1 : (j1 : Int) < 7 := by omega
  have q2 : (j2 : Int) < 7 := by omega
  have HO := Lib.hid hopen
  have HE1 := Lib.hid e1
  have HE2 := Lib.hid e2
  clear hopen e1 e2 hv1 hv2
  go_enter Try.func27, Try.ntmps27
  go_wp2_with fail
  refine (HO.out A c w _ (Below.refl _ _) hr hc).mono ?_
  rintro e w2 ⟨g, rfl, hi, hb, hb2⟩
  have HD := Lib.hid (Dr.new hi hb)
  have hgl := HD.out.lt
  clear hi hb hb2
  obtain ⟨⟨As1, cs1, L1, key1⟩, ⟨As2, cs2, L2, key2⟩⟩ := KY0.out w2
  have KY := Lib.hid (And.intro (And.intro L1 key1) (And.intro L2 key2))
  clear L1 L2 key1 key2
  go_wp2_with fail
  have HDD := Lib.hid ((HD.out.later (by repeat (first | exact Below.refl _ _ | refine below_alloc ?_ _)) : Dr w w2 g s ((0 : Nat) : Int) ((((((((w2.alloc (.cells #[] 3)).alloc (.cells #[.int .i64 1] 3)).alloc (.cells #[.int .i64 2] 3)).alloc (.cells #[.int .i64 1, .int .i64 2] 3)).alloc (.cells #[.int .i64 1, .int .i64 3] 3)).alloc (.cells #[.int .i64 1, .int .i64 2, .int .i64 3] 3)).alloc (.cells #[.int .i64 3, .int .i64 1] 3)).alloc (.cells #[.slice (some ⟨w2.heap.size, 0, none⟩) 0 0, .slice (some ⟨w2.heap.size + 1, 0, none⟩) 1 1, .slice (some ⟨w2.heap.size + 1 + 1, 0, none⟩) 1 1, .slice (some ⟨w2.heap.size + 1 + 1 + 1, 0, none⟩) 2 2, .slice (some ⟨w2.heap.size + 1 + 1 + 1 + 1, 0, none⟩) 2 2, .slice (some ⟨w2.heap.size + 1 + 1 + 1 + 1 + 1, 0, none⟩) 3 3, .slice (some ⟨w2.heap.size + 1 + 1 + 1 + 1 + 1 + 1, 0, none⟩) 2 2] 23))).later (below_drew (Below.refl _ _)))
  have HEQ := Lib.hid (show ∀ b, w2.heap.size ≤ b → b < w2.heap.size + 8 → (World.drew ((((((((w2.alloc (.cells #[] 3)).alloc (.cells #[.int .i64 1] 3)).alloc (.cells #[.int .i64 2] 3)).alloc (.cells #[.int .i64 1, .int .i64 2] 3)).alloc (.cells #[.int .i64 1, .int .i64 3] 3)).alloc (.cells #[.int .i64 1, .int .i64 2, .int .i64 3] 3)).alloc (.cells #[.int .i64 3, .int .i64 1] 3)).alloc (.cells #[.slice (some ⟨w2.heap.size, 0, none⟩) 0 0, .slice (some ⟨w2.heap.size + 1, 0, none⟩) 1 1, .slice (some ⟨w2.heap.size + 1 + 1, 0, none⟩) 1 1, .slice (some ⟨w2.heap.size + 1 + 1 + 1, 0, none⟩) 2 2, .slice (some ⟨w2.heap.size + 1 + 1 + 1 + 1, 0, none⟩) 2 2, .slice (some ⟨w2.heap.size + 1 + 1 + 1 + 1 + 1, 0, none⟩) 3 3, .slice (some ⟨w2.heap.size + 1 + 1 + 1 + 1 + 1 + 1, 0, none⟩) 2 2] 23))).heap[b]? = ((((((((w2.alloc (.cells #[] 3)).alloc (.cells #[.int .i64 1] 3)).alloc (.cells #[.int .i64 2] 3)).alloc (.cells #[.int .i64 1, .int .i64 2] 3)).alloc (.cells #[.int .i64 1, .int .i64 3] 3)).alloc (.cells #[.int .i64 1, .int .i64 2, .int .i64 3] 3)).alloc (.cells #[.int .i64 3, .int .i64 1] 3)).alloc (.cells #[.slice (some ⟨w2.heap.size, 0, none⟩) 0 0, .slice (some ⟨w2.heap.size + 1, 0, none⟩) 1 1, .slice (some ⟨w2.heap.size + 1 + 1, 0, none⟩) 1 1, .slice (some ⟨w2.heap.size + 1 + 1 + 1, 0, none⟩) 2 2, .slice (some ⟨w2.heap.size + 1 + 1 + 1 + 1, 0, none⟩) 2 2, .slice (some ⟨w2.heap.size + 1 + 1 + 1 + 1 + 1, 0, none⟩) 3 3, .slice (some ⟨w2.heap.size + 1 + 1 + 1 + 1 + 1 + 1, 0, none⟩) 2 2] 23)).heap[b]? from fun b _ _ => rfl)
  refine start_ (n := 16) (S := (fun W : World => W.cell? ⟨w2.heap.size + 1 + 1 + 1 + 1 + 1 + 1 + 1, j1, none⟩ = some (.slice As1 sa.length cs1) ∧ W.cell? ⟨w2.heap.size + 1 + 1 + 1 + 1 + 1 + 1 + 1, j2, none⟩ = some (.slice As2 sb.length cs2))) (ds := []) #[false, false, false, false, false, false, false, false, false, false, false, false, false, false, false, false] (by kernel_rfl) rfl rfl ⟨(KY.out.1.2 _ HEQ.out).1, (KY.out.2.2 _ HEQ.out).1⟩ (fun hHeld => ?_)
  have HSZ := Lib.hid (show w2.heap.size + 8 ≤ (World.drew ((((((((w2.alloc (.cells #[] 3)).alloc (.cells #[.int .i64 1] 3)).alloc (.cells #[.int .i64 2] 3)).alloc (.cells #[.int .i64 1, .int .i64 2] 3)).alloc (.cells #[.int .i64 1, .int .i64 3] 3)).alloc (.cells #[.int .i64 1, .int .i64 2, .int .i64 3] 3)).alloc (.cells #[.int .i64 3, .int .i64 1] 3)).alloc (.cells #[.slice (some ⟨w2.heap.size, 0, none⟩) 0 0, .slice (some ⟨w2.heap.size + 1, 0, none⟩) 1 1, .slice (some ⟨w2.heap.size + 1 + 1, 0, none⟩) 1 1, .slice (some ⟨w2.heap.size + 1 + 1 + 1, 0, none⟩) 2 2, .slice (some ⟨w2.heap.size + 1 + 1 + 1 + 1, 0, none⟩) 2 2, .slice (some ⟨w2.heap.size + 1 + 1 + 1 + 1 + 1, 0, none⟩) 3 3, .slice (some ⟨w2.heap.size + 1 + 1 + 1 + 1 + 1 + 1, 0, none⟩) 2 2] 23))).heap.size from by simp)
  generalize World.drew _ = wd at HDD HEQ HSZ hHeld ⊢
  refine pure_ (i := 0) (N := some 16) (v := ?_) (a' := ?_) #[true, false, false, false, false, false, false, false, false, false, false, false, false, false, false, false] rfl rfl (by kernel_rfl) (fun _ _ _ h => h) (Or.inl ⟨by rfl, ?_⟩) ?_ ?_
  rotate_left
  · intro w'
    go_simp
    with_reducible rfl
  rotate_left
  · simp only [Act.put, List.setIfInBounds_toArray, List.set_cons_zero, List.set_cons_succ, i64_w, i32_w]
    rfl
  refine pure_ (i := 1) (N := some 17) (v := ?_) (a' := ?_) #[true, true, false, false, false, false, false, false, false, false, false, false, false, false, false, false] rfl rfl (by kernel_rfl) (fun _ _ _ h => h) (Or.inl ⟨by rfl, ?_⟩) ?_ ?_
  rotate_left
  · intro w'
    go_simp
    with_reducible rfl
  rotate_left
  · simp only [Act.put, List.setIfInBounds_toArray, List.set_cons_zero, List.set_cons_succ, i64_w, i32_w]
    rfl
  refine pure_ (i := 2) (N := some 18) (v := ?_) (a' := ?_) #[true, true, true, false, false, false, false, false, false, false, false, false, false, false, false, false] rfl rfl (by kernel_rfl) (fun _ _ _ h => h) (Or.inl ⟨by rfl, ?_⟩) ?_ ?_
  rotate_left
  · intro w'
    go_simp
    with_reducible rfl
  rotate_left
  · simp only [Act.put, List.setIfInBounds_toArray, List.set_cons_zero, List.set_cons_succ, i64_w, i32_w]
    rfl
  refine pure_ (i := 3) (N := some 19) (v := ?_) (a' := ?_) #[true, true, true, true, false, false, false, false, false, false, false, false, false, false, false, false] rfl rfl (by kernel_rfl) (fun _ _ _ h => h) (Or.inl ⟨by rfl, ?_⟩) ?_ ?_
  rotate_left
  · intro w'
    go_simp
    with_reducible rfl
  rotate_left
  · simp only [Act.put, List.setIfInBounds_toArray, List.set_cons_zero, List.set_cons_succ, i64_w, i32_w]
    rfl
  refine pure_ (i := 7) (N := some 23) (v := ?_) (a' := ?_) #[true, true, true, true, false, false, false, true, false, false, false, false, false, false, false, false] rfl rfl (by kernel_rfl) (fun _ _ _ h => h) (Or.inl ⟨by rfl, ?_⟩) ?_ ?_
  rotate_left
  · intro w'
    go_simp
    with_reducible rfl
  rotate_left
  · simp only [Act.put, List.setIfInBounds_toArray, List.set_cons_zero, List.set_cons_succ, i64_w, i32_w]
    rfl
  refine pure_ (i := 8) (N := some 24) (v := ?_) (a' := ?_) #[true, true, true, true, false, false, false, true, true, false, false, false, false, false, false, false] rfl rfl (by kernel_rfl) (fun _ _ _ h => h) (Or.inl ⟨by rfl, ?_⟩) ?_ ?_
  rotate_left
  · intro w'
    go_simp
    with_reducible rfl
  rotate_left
  · simp only [Act.put, List.setIfInBounds_toArray, List.set_cons_zero, List.set_cons_succ, i64_w, i32_w]
    rfl
  refine pure_ (i := 9) (N := some 25) (v := ?_) (a' := ?_) #[true, true, true, true, false, false, false, true, true, true, false, false, false, false, false, false] rfl rfl (by kernel_rfl) (fun _ _ _ h => h) (Or.inl ⟨by rfl, ?_⟩) ?_ ?_
  rotate_left
  · intro w'
    go_simp
    with_reducible rfl
  rotate_left
  · simp only [Act.put, List.setIfInBounds_toArray, List.set_cons_zero, List.set_cons_succ, i64_w, i32_w]
    rfl
  refine pure_ (i := 10) (N := some 26) (v := ?_) (a' := ?_) #[true, true, true, true, false, false, false, true, true, true, true, false, false, false, false, false] rfl rfl (by kernel_rfl) (fun _ _ _ h => h) (Or.inl ⟨by rfl, ?_⟩) ?_ ?_
  rotate_left
  · intro w'
    go_simp
    with_reducible rfl
  rotate_left
  · simp only [Act.put, List.setIfInBounds_toArray, List.set_cons_zero, List.set_cons_succ, i64_w, i32_w]
    rfl
  refine one_ (i := 4) (N := some 20) #[true, true, true, true, true, false, false, true, true, true, true, false, false, false, false, false] rfl rfl (by kernel_rfl) (by decide) (fun K hK => ?_)
  refine goes_ Try.func79 (by kernel_rfl) rfl #[.pointer (some ⟨g, 0, none⟩), .int .i64 7] (by rfl) rfl rfl (by (try simp only [List.map_toArray, List.map_cons, List.map_nil]); first | done | rfl) ?_
  refine (pick_at HE1.out g w _ HDD.out.is HDD.out.b).mono ?_
  rintro e w8 ⟨rfl, hi, hb, hk⟩
  refine ⟨_, rfl, ?_⟩
  replace HEQ := Lib.hid (show ∀ b, w2.heap.size ≤ b → b < w2.heap.size + 8 → w8.heap[b]? = ((((((((w2.alloc (.cells #[] 3)).alloc (.cells #[.int .i64 1] 3)).alloc (.cells #[.int .i64 2] 3)).alloc (.cells #[.int .i64 1, .int .i64 2] 3)).alloc (.cells #[.int .i64 1, .int .i64 3] 3)).alloc (.cells #[.int .i64 1, .int .i64 2, .int .i64 3] 3)).alloc (.cells #[.int .i64 3, .int .i64 1] 3)).alloc (.cells #[.slice (some ⟨w2.heap.size, 0, none⟩) 0 0, .slice (some ⟨w2.heap.size + 1, 0, none⟩) 1 1, .slice (some ⟨w2.heap.size + 1 + 1, 0, none⟩) 1 1, .slice (some ⟨w2.heap.size + 1 + 1 + 1, 0, none⟩) 2 2, .slice (some ⟨w2.heap.size + 1 + 1 + 1 + 1, 0, none⟩) 2 2, .slice (some ⟨w2.heap.size + 1 + 1 + 1 + 1 + 1, 0, none⟩) 3 3, .slice (some ⟨w2.heap.size + 1 + 1 + 1 + 1 + 1 + 1, 0, none⟩) 2 2] 23)).heap[b]? from fun b h1 h2 => (hk.2 b (by have := HSZ.out; omega) (by omega) (by simp)).trans (HEQ.out b h1 h2))
  replace HSZ := Lib.hid (Nat.le_trans HSZ.out (keep_size hk))
  replace HDD := Lib.hid (HDD.out.call hi hb hk)
  clear hi hb hk
  refine hK.out _ _ ⟨(KY.out.1.2 _ HEQ.out).1, (KY.out.2.2 _ HEQ.out).1⟩ (fun hHeld => ?_)
  clear hK K
  refine norm_ (a' := ?_) ?_ ?_
  rotate_left
  · show Act.put _ (some 20) _ = _
    simp only [Act.put, List.setIfInBounds_toArray, List.set_cons_zero, List.set_cons_succ, i64_w, i32_w]
    rfl
  refine pure_ (i := 5) (N := some 21) (v := ?_) (a' := ?_) #[true, true, true, true, true, true, false, true, true, true, true, false, false, false, false, false] rfl rfl (by kernel_rfl) (fun _ _ _ h => h) (Or.inl ⟨by rfl, ?_⟩) ?_ ?_
  rotate_left
  · intro w'
    go_simp
    with_reducible rfl
  rotate_left
  · simp only [Act.put, List.setIfInBounds_toArray, List.set_cons_zero, List.set_cons_succ, i64_w, i32_w]
    rfl
  refine take_ (i := 6) (N := some 22) (v := ?_) (a' := ?_) #[true, true, true, true, true, true, true, true, true, true, true, false, false, false, false, false] rfl rfl (by kernel_rfl) (fun _ _ _ h => h) (Or.inl ⟨by rfl, ?_⟩) hHeld ?_ ?_
  rotate_left
  · rintro w' ⟨s0, s1⟩
    go_simp
    with_reducible rfl
  rotate_left
  · simp only [Act.put, List.setIfInBounds_toArray, List.set_cons_zero, List.set_cons_succ, i64_w, i32_w]
    rfl
  refine one_ (i := 11) (N := some 27) #[true, true, true, true, true, true, true, true, true, true, true, true, false, false, false, false] rfl rfl (by kernel_rfl) (by decide) (fun K hK => ?_)
  refine goes_ Try.func79 (by kernel_rfl) rfl #[.pointer (some ⟨g, 0, none⟩), .int .i64 7] (by rfl) rfl rfl (by (try simp only [List.map_toArray, List.map_cons, List.map_nil]); first | done | rfl) ?_
  refine (pick_at HE2.out g w _ HDD.out.is HDD.out.b).mono ?_
  rintro e w9 ⟨rfl, hi, hb, hk⟩
  refine ⟨_, rfl, ?_⟩
  replace HEQ := Lib.hid (show ∀ b, w2.heap.size ≤ b → b < w2.heap.size + 8 → w9.heap[b]? = ((((((((w2.alloc (.cells #[] 3)).alloc (.cells #[.int .i64 1] 3)).alloc (.cells #[.int .i64 2] 3)).alloc (.cells #[.int .i64 1, .int .i64 2] 3)).alloc (.cells #[.int .i64 1, .int .i64 3] 3)).alloc (.cells #[.int .i64 1, .int .i64 2, .int .i64 3] 3)).alloc (.cells #[.int .i64 3, .int .i64 1] 3)).alloc (.cells #[.slice (some ⟨w2.heap.size, 0, none⟩) 0 0, .slice (some ⟨w2.heap.size + 1, 0, none⟩) 1 1, .slice (some ⟨w2.heap.size + 1 + 1, 0, none⟩) 1 1, .slice (some ⟨w2.heap.size + 1 + 1 + 1, 0, none⟩) 2 2, .slice (some ⟨w2.heap.size + 1 + 1 + 1 + 1, 0, none⟩) 2 2, .slice (some ⟨w2.heap.size + 1 + 1 + 1 + 1 + 1, 0, none⟩) 3 3, .slice (some ⟨w2.heap.size + 1 + 1 + 1 + 1 + 1 + 1, 0, none⟩) 2 2] 23)).heap[b]? from fun b h1 h2 => (hk.2 b (by have := HSZ.out; omega) (by omega) (by simp)).trans (HEQ.out b h1 h2))
  replace HSZ := Lib.hid (Nat.le_trans HSZ.out (keep_size hk))
  replace HDD := Lib.hid (HDD.out.call hi hb hk)
  clear hi hb hk
  refine hK.out _ _ ⟨(KY.out.1.2 _ HEQ.out).1, (KY.out.2.2 _ HEQ.out).1⟩ (fun hHeld => ?_)
  clear hK K
  refine norm_ (a' := ?_) ?_ ?_
  rotate_left
  · show Act.put _ (some 27) _ = _
    simp only [Act.put, List.setIfInBounds_toArray, List.set_cons_zero, List.set_cons_succ, i64_w, i32_w]
    rfl
  refine pure_ (i := 12) (N := some 28) (v := ?_) (a' := ?_) #[true, true, true, true, true, true, true, true, true, true, true, true, true, false, false, false] rfl rfl (by kernel_rfl) (fun _ _ _ h => h) (Or.inl ⟨by rfl, ?_⟩) ?_ ?_
  rotate_left
  · intro w'
    go_simp
    with_reducible rfl
  rotate_left
  · simp only [Act.put, List.setIfInBounds_toArray, List.set_cons_zero, List.set_cons_succ, i64_w, i32_w]
    rfl
  refine take_ (i := 13) (N := some 29) (v := ?_) (a' := ?_) #[true, true, true, true, true, true, true, true, true, true, true, true, true, true, false, false] rfl rfl (by kernel_rfl) (fun _ _ _ h => h) (Or.inl ⟨by rfl, ?_⟩) hHeld ?_ ?_
  rotate_left
  · rintro w' ⟨s0, s1⟩
    go_simp
    with_reducible rfl
  rotate_left
  · simp only [Act.put, List.setIfInBounds_toArray, List.set_cons_zero, List.set_cons_succ, i64_w, i32_w]
    rfl
  refine pure_ (i := 14) (N := some 2) (v := ?_) (a' := ?_) #[true, true, true, true, true, true, true, true, true, true, true, true, true, true, true, false] rfl rfl (by kernel_rfl) (fun _ _ _ h => h) (Or.inl ⟨by rfl, ?_⟩) ?_ ?_
  rotate_left
  · intro w'
    go_simp
    with_reducible rfl
  rotate_left
  · simp only [Act.put, List.setIfInBounds_toArray, List.set_cons_zero, List.set_cons_succ, i64_w, i32_w]
    rfl
  refine pure_ (i := 15) (N := some 3) (v := ?_) (a' := ?_) #[true, true, true, true, true, true, true, true, true, true, true, true, true, true, true, true] rfl rfl (by kernel_rfl) (fun _ _ _ h => h) (Or.inl ⟨by rfl, ?_⟩) ?_ ?_
  rotate_left
  · intro w'
    go_simp
    with_reducible rfl
  rotate_left
  · simp only [Act.put, List.setIfInBounds_toArray, List.set_cons_zero, List.set_cons_succ, i64_w, i32_w]
    rfl
  refine done_ (by kernel_rfl) ?_
  have hC1 := (KY.out.1.2 _ HEQ.out).2
  have hC2 := (KY.out.2.2 _ HEQ.out).2
  have HC := Lib.hid (And.intro (And.intro KY.out.1.1 hC1) (And.intro KY.out.2.1 hC2))
  clear hC1 hC2
  go_wp2_with fail
  refine bodyPost_ret (v := .tuple #[.slice As1 sa.length cs1, .slice As2 sb.length cs2]) (by simp [results, Try.results27, go_sem]) rfl ?_
  exact ⟨_, _, _, _, rfl, HC.out.1.1, HC.out.1.2, HC.out.2.1, HC.out.2.2, HDD.out.b⟩
end Go.Proofs.Yteonncnhhccgeaa
end
section
namespace Go.Proofs.Yteonncnhhccgeaa
open Go.RowKit Go.Proofs.YteonncnhhccgeaaW.PrintWords Go.Proofs.YteonncnhhccgeaaW.PrintLast Go.Proofs.YteonncnhhccgeaaW.PrintMore
set_option linter.unusedVariables false
def wB (a b : List Int) : Bool := decide (∀ x, x ∈ a → x ∈ b)
theorem wB_iff {a b : List Int} : wB a b = true ↔ ∀ x, x ∈ a → x ∈ b := decide_eq_true_iff
theorem wB_self (a : List Int) : wB a a = true := wB_iff.2 (fun _ h => h)
theorem wB_nil (a : List Int) : wB [] a = true := wB_iff.2 (fun _ h => by cases h)
theorem wB_trans {a b c : List Int} (h1 : wB a b = true) (h2 : wB b c = true) : wB a c = true := wB_iff.2 (fun x h => wB_iff.1 h2 x (wB_iff.1 h1 x h))
theorem implW' {xs ys : List Int} {b : Bool} (h : wB xs ys = b) (A B : Option Addr) (c d : Nat) (w : World) (hr : kI.C w A xs.length xs) (hc : xs.length ≤ c) (hr2 : kI.C w B ys.length ys) (hc2 : ys.length ≤ d) :
    Calls Try.prog 28 #[.slice A xs.length c, .slice B ys.length d] w (Ret w (.bool b)) := h ▸ implWithin_any xs ys A B c d w hr hc hr2 hc2
theorem specW' {xs ys : List Int} {b : Bool} (h : wB xs ys = b) (A B : Option Addr) (c d : Nat) (w : World) (hr : kI.C w A xs.length xs) (hc : xs.length ≤ c) (hr2 : kI.C w B ys.length ys) (hc2 : ys.length ≤ d) :
    Calls Try.prog 29 #[.slice A xs.length c, .slice B ys.length d] w (Ret w (.bool b)) := h ▸ specWithin_any xs ys A B c d w hr hc hr2 hc2
/-- Of the first i elements, whether each is in b. -/
def bothB (a b : List Int) (i : Nat) : Bool := decide (∀ x, x ∈ a.take i → x ∈ b)
theorem bothB_zero (a b : List Int) : bothB a b 0 = true := by simp [bothB]
theorem bothB_all (a b : List Int) : bothB a b a.length = wB a b := by simp [bothB, wB]
theorem bothB_next {a b : List Int} {i : Nat} (h : i < a.length) : bothB a b (i + 1) = (bothB a b i && wB [a[i]] b) := by
  unfold bothB wB
  rw [List.take_succ_eq_append_getElem h, Bool.eq_iff_iff, decide_eq_true_iff, Bool.and_eq_true, decide_eq_true_iff, decide_eq_true_iff]
  constructor
  · intro k
    exact ⟨fun x hx => k x (List.mem_append_left _ hx), fun x hx => k x (List.mem_append_right _ hx)⟩
  · rintro ⟨k1, k2⟩ x hx
    rcases List.mem_append.1 hx with hx | hx
    · exact k1 x hx
    · exact k2 x hx
/-- Of the seven sets, two that contain each other are as_ long. -/
theorem setsW_anti : ∀ a, a ∈ setsW → ∀ b, b ∈ setsW → wB a b = true → wB b a = true → a.length = b.length := by
  intro a ha b hb h1 h2
  simp only [setsW, List.mem_cons, List.not_mem_nil, or_false] at ha hb
  rcases ha with rfl | rfl | rfl | rfl | rfl | rfl | rfl <;> rcases hb with rfl | rfl | rfl | rfl | rfl | rfl | rfl <;> first | rfl | (exfalso; revert h1; decide) | (exfalso; revert h2; decide)
end Go.Proofs.Yteonncnhhccgeaa
end
