/- A form without scopes is printed without braces. For every input the law FnStripText returns true, and leaves its input alone, where the table of powers of ten is laid. -/
import Derived.Below
import Derived.ChangeOld
import Derived.JoinedOf
import Derived.KernelRfl
import Derived.LaidMore
import Derived.OpenShut
import Derived.ProofKit
import Derived.RowKit3
import Derived.SevenTiedAt
import Derived.ShutString
import Derived.SizedLaws
import Derived.Test.YteeepenncddnjaaDoorCards
import Derived.Test.YteeepenncddnjaaDoorRows
import Derived.Test.YteeepenncddnjaaDoorTie
import Derived.WalkKit
import Derived.Test.YteeepenncddnjaaDoorKb1
import Derived.Test.YteeepenncddnjaaDoorKb3
section
namespace Go.Proofs.YteeepenncddnjaaDoor
open Go.RowKit Go.Proofs.YteeepenncddnjaaDoorW.PrintWords Go.Proofs.YteeepenncddnjaaDoorW.PrintLast Go.Proofs.YteeepenncddnjaaDoorW.PrintMore
set_option linter.unusedVariables false
set_option linter.unusedSimpArgs false
set_option maxHeartbeats 4000000 in
set_option maxRecDepth 100000 in
theorem fnStripText_walk (A0 : Option Addr) (c0 : Nat) (l0 : List Int) (w : World)
    (hr0 : (Kd.int .u8).C w A0 l0.length l0) (hc0 : l0.length ≤ c0) (y0 : l0.length * 1 ≤ 140737488351232) (hw0 : ∀ n ∈ l0, (Lit.int .u8 n).wf = true) (htab : TabP w) :
    Calls Tryd.prog 4 #[.slice A0 l0.length c0] w fun e w' => e = .returned (.bool true) ∧ Below w.heap.size w w' := by
  by_cases g0 : l0.length ≤ 1048576
  rotate_left
  · have t0 : decide ((l0.length : Int) > 1048576) = true := decide_eq_true (by omega)
    have t0' : decide (1048576 < l0.length) = true := decide_eq_true (by omega)
    go_enter Tryd.func4, Tryd.ntmps4
    go_wp2_with fail
    go_ret
    exact ⟨rfl, Below.refl _ _⟩
  obtain ⟨x, hx, D0⟩ := drawStrip l0 (fun z hz => byteOk (hw0 z hz))
  replace D0 := Lib.hid D0
  have HTB := Lib.hid (fun W (hb : Below w.heap.size w W) => htab.below hb)
  clear htab
  have hbb := bare_bare x
  have hbt := tot_bare x
  obtain ⟨z, hz⟩ : ∃ z, x.bare = z := ⟨_, rfl⟩
  have HZ := Lib.hid (And.intro hz (fun h : FmOk x => fmOk_bare h))
  rw [hz] at hbt hbb
  obtain ⟨s, hs⟩ : ∃ s, fmtT z = s := ⟨_, rfl⟩
  have hss : s.size ≤ 100000 := hs ▸ fmtT_size z
  have HF := Lib.hid hs
  have HB := Lib.hid (fmt_bare hbb hs)
  have hsb : (s.toList == s.toList) = true := beq_self_eq_true _
  clear hz hbb hs
  have t0 : decide ((l0.length : Int) > 1048576) = false := decide_eq_false (by omega)
  have t0' : decide (1048576 < l0.length) = false := decide_eq_false (by omega)
  go_enter Tryd.func4, Tryd.ntmps4
  go_wp2_with fail
  refine (D0.out A0 c0 _ hr0 hc0).mono ?_
  rintro e w1 ⟨X_3, X_c3, X_4, X_c4, rfl, i, b⟩
  have I := Lib.hid i
  clear i
  have BW := Lib.hid b
  clear b
  have Ix := Lib.hid I.out
  clear I
  go_wp2_with fail
  refine (HZ.out.1 ▸ (implStrip_any x _ _ _ _ _ (Ix.out.below (below_new _ _)) (by omega)).mono (fun e w' h => h.get)).mono ?_
  rintro e w2 ⟨Z_3, Z_c3, Z_4, Z_c4, rfl, i, b⟩
  have I := Lib.hid i
  clear i
  obtain ⟨k, b⟩ := one_new b
  replace Ix := Lib.hid (Ix.out.below b)
  replace BW := Lib.hid (below_step BW.out b)
  have Kx := Lib.hid k
  clear k
  clear b
  have Iz := Lib.hid I.out
  clear I
  go_wp2_with fail
  refine (implFmt' HF.out _ _ _ _ _ (Iz.out.below (below_new _ _)) (by omega) (HTB.out _ (below_step BW.out (below_new _ _)))).mono ?_
  rintro e w3 ⟨rfl, b⟩
  obtain ⟨k, b⟩ := one_new b
  replace Kx := Lib.hid (blk_below Kx.out b)
  replace Ix := Lib.hid (Ix.out.below b)
  replace Iz := Lib.hid (Iz.out.below b)
  replace BW := Lib.hid (below_step BW.out b)
  have Kz := Lib.hid k
  clear k
  clear b
  obtain ⟨p0, p1, p2, p3, p4⟩ := fm_cells Kx.out
  go_wp2_with fail
  clear p0 p1 p2 p3 p4
  have b := below_drew (Below.refl w3.heap.size w3)
  replace Kx := Lib.hid (blk_below Kx.out b)
  replace Kz := Lib.hid (blk_below Kz.out b)
  replace Ix := Lib.hid (Ix.out.below b)
  replace Iz := Lib.hid (Iz.out.below b)
  replace BW := Lib.hid (below_step BW.out b)
  clear b
  obtain ⟨p0, p1, p2, p3, p4⟩ := fm_cells Kx.out
  obtain ⟨q0, q1, q2, q3, q4⟩ := fm_cells Kz.out
  refine start_ (n := 11) (S := (fun W : World => W.cell? ⟨w1.heap.size, 0, none⟩ = some (.int .i64 x.f0) ∧ W.cell? ⟨w1.heap.size, 1, none⟩ = some (.string x.f1) ∧ W.cell? ⟨w1.heap.size, 2, none⟩ = some (.int .i64 x.f2) ∧ W.cell? ⟨w1.heap.size, 3, none⟩ = some (.slice X_3 x.f3.length X_c3) ∧ W.cell? ⟨w1.heap.size, 4, none⟩ = some (.slice X_4 x.f4.length X_c4) ∧ W.cell? ⟨w2.heap.size, 0, none⟩ = some (.int .i64 z.f0) ∧ W.cell? ⟨w2.heap.size, 1, none⟩ = some (.string z.f1) ∧ W.cell? ⟨w2.heap.size, 2, none⟩ = some (.int .i64 z.f2) ∧ W.cell? ⟨w2.heap.size, 3, none⟩ = some (.slice Z_3 z.f3.length Z_c3) ∧ W.cell? ⟨w2.heap.size, 4, none⟩ = some (.slice Z_4 z.f4.length Z_c4))) (ds := []) #[false, false, false, false, false, false, false, false, false, false, false] (by kernel_rfl) rfl rfl ⟨p0, p1, p2, p3, p4, q0, q1, q2, q3, q4⟩ (fun hHeld => ?_)
  generalize World.drew _ = wd at Kx Kz Ix Iz BW hHeld ⊢
  clear p0 p1 p2 p3 p4 q0 q1 q2 q3 q4
  refine take_ (i := 0) (N := some 16) (v := ?_) (a' := ?_) #[true, false, false, false, false, false, false, false, false, false, false] rfl rfl (by kernel_rfl) (fun _ _ _ h => h) (Or.inl ⟨by rfl, ?_⟩) hHeld ?_ ?_
  rotate_left
  · rintro w' ⟨s0, s1, s2, s3, s4, s5, s6, s7, s8, s9⟩
    go_simp
    with_reducible rfl
  rotate_left
  · simp only [Act.put, List.setIfInBounds_toArray, List.set_cons_zero, List.set_cons_succ, i64_w, i32_w]
    rfl
  refine take_ (i := 1) (N := some 17) (v := ?_) (a' := ?_) #[true, true, false, false, false, false, false, false, false, false, false] rfl rfl (by kernel_rfl) (fun _ _ _ h => h) (Or.inl ⟨by rfl, ?_⟩) hHeld ?_ ?_
  rotate_left
  · rintro w' ⟨s0, s1, s2, s3, s4, s5, s6, s7, s8, s9⟩
    go_simp
    with_reducible rfl
  rotate_left
  · simp only [Act.put, List.setIfInBounds_toArray, List.set_cons_zero, List.set_cons_succ, i64_w, i32_w]
    rfl
  refine one_ (i := 2) (N := some 18) #[true, true, true, false, false, false, false, false, false, false, false] rfl rfl (by kernel_rfl) (by decide) (fun K hK => ?_)
  refine goes_ Tryd.func15 (by kernel_rfl) rfl #[.agg #[.int .i64 x.f0, .string x.f1, .int .i64 x.f2, .slice X_3 x.f3.length X_c3, .slice X_4 x.f4.length X_c4]] (by rfl) rfl rfl (by (try simp only [List.map_toArray, List.map_cons, List.map_nil]); first | done | rfl) ?_
  refine (HZ.out.1 ▸ (specStrip_any x _ _ _ _ _ Ix.out (by omega)).mono (fun e w' h => h.get)).mono ?_
  rintro e w4 ⟨U_3, U_c3, U_4, U_c4, rfl, i, b⟩
  have I := Lib.hid i
  clear i
  replace Kx := Lib.hid (blk_below Kx.out b)
  replace Kz := Lib.hid (blk_below Kz.out b)
  replace Ix := Lib.hid (Ix.out.below b)
  replace Iz := Lib.hid (Iz.out.below b)
  replace BW := Lib.hid (below_step BW.out b)
  clear b
  have Iu := Lib.hid I.out
  clear I
  refine ⟨_, rfl, ?_⟩
  obtain ⟨p0, p1, p2, p3, p4⟩ := fm_cells Kx.out
  obtain ⟨q0, q1, q2, q3, q4⟩ := fm_cells Kz.out
  refine hK.out _ _ ⟨p0, p1, p2, p3, p4, q0, q1, q2, q3, q4⟩ (fun hHeld => ?_)
  clear hK K
  refine norm_ (a' := ?_) ?_ ?_
  rotate_left
  · show Act.put _ (some 18) _ = _
    simp only [Act.put, List.setIfInBounds_toArray, List.set_cons_zero, List.set_cons_succ, i64_w, i32_w]
    rfl
  clear p0 p1 p2 p3 p4 q0 q1 q2 q3 q4
  refine one_ (i := 3) (N := some 19) #[true, true, true, true, false, false, false, false, false, false, false] rfl rfl (by kernel_rfl) (by decide) (fun K hK => ?_)
  refine goes_ Tryd.func9 (by kernel_rfl) rfl #[.agg #[.int .i64 z.f0, .string z.f1, .int .i64 z.f2, .slice Z_3 z.f3.length Z_c3, .slice Z_4 z.f4.length Z_c4], .agg #[.int .i64 z.f0, .string z.f1, .int .i64 z.f2, .slice U_3 z.f3.length U_c3, .slice U_4 z.f4.length U_c4]] (by rfl) rfl rfl (by (try simp only [List.map_toArray, List.map_cons, List.map_nil]); first | done | rfl) ?_
  refine (sameT z _ _ _ _ _ _ _ _ _ Iz.out Iu.out).mono ?_
  rintro e w5 ⟨rfl, b⟩
  replace Kx := Lib.hid (blk_below Kx.out b)
  replace Kz := Lib.hid (blk_below Kz.out b)
  replace Ix := Lib.hid (Ix.out.below b)
  replace Iz := Lib.hid (Iz.out.below b)
  replace Iu := Lib.hid (Iu.out.below b)
  replace BW := Lib.hid (below_step BW.out b)
  clear b
  refine ⟨_, rfl, ?_⟩
  obtain ⟨p0, p1, p2, p3, p4⟩ := fm_cells Kx.out
  obtain ⟨q0, q1, q2, q3, q4⟩ := fm_cells Kz.out
  refine hK.out _ _ ⟨p0, p1, p2, p3, p4, q0, q1, q2, q3, q4⟩ (fun hHeld => ?_)
  clear hK K
  refine norm_ (a' := ?_) ?_ ?_
  rotate_left
  · show Act.put _ (some 19) _ = _
    simp only [Act.put, List.setIfInBounds_toArray, List.set_cons_zero, List.set_cons_succ, i64_w, i32_w]
    rfl
  clear p0 p1 p2 p3 p4 q0 q1 q2 q3 q4
  refine pure_ (i := 4) (N := some 20) (v := ?_) (a' := ?_) #[true, true, true, true, true, false, false, false, false, false, false] rfl rfl (by kernel_rfl) (fun _ _ _ h => h) (Or.inl ⟨by rfl, ?_⟩) ?_ ?_
  rotate_left
  · intro w'
    go_simp
    with_reducible rfl
  rotate_left
  · simp only [Act.put, List.setIfInBounds_toArray, List.set_cons_zero, List.set_cons_succ, i64_w, i32_w]
    rfl
  refine pure_ (i := 5) (N := some 21) (v := ?_) (a' := ?_) #[true, true, true, true, true, true, false, false, false, false, false] rfl rfl (by kernel_rfl) (fun _ _ _ h => h) (Or.inl ⟨by rfl, ?_⟩) ?_ ?_
  rotate_left
  · intro w'
    go_simp
    with_reducible rfl
  rotate_left
  · simp only [Act.put, List.setIfInBounds_toArray, List.set_cons_zero, List.set_cons_succ, i64_w, i32_w]
    rfl
  refine pure_ (i := 6) (N := some 22) (v := ?_) (a' := ?_) #[true, true, true, true, true, true, true, false, false, false, false] rfl rfl (by kernel_rfl) (fun _ _ _ h => h) (Or.inl ⟨by rfl, ?_⟩) ?_ ?_
  rotate_left
  · intro w'
    go_simp
    with_reducible rfl
  rotate_left
  · simp only [Act.put, List.setIfInBounds_toArray, List.set_cons_zero, List.set_cons_succ, i64_w, i32_w]
    rfl
  refine take_ (i := 7) (N := some 23) (v := ?_) (a' := ?_) #[true, true, true, true, true, true, true, true, false, false, false] rfl rfl (by kernel_rfl) (fun _ _ _ h => h) (Or.inl ⟨by rfl, ?_⟩) hHeld ?_ ?_
  rotate_left
  · rintro w' ⟨s0, s1, s2, s3, s4, s5, s6, s7, s8, s9⟩
    go_simp
    with_reducible rfl
  rotate_left
  · simp only [Act.put, List.setIfInBounds_toArray, List.set_cons_zero, List.set_cons_succ, i64_w, i32_w]
    rfl
  refine one_ (i := 8) (N := some 24) #[true, true, true, true, true, true, true, true, true, false, false] rfl rfl (by kernel_rfl) (by decide) (fun K hK => ?_)
  refine goes_ Tryd.func16 (by kernel_rfl) rfl #[.agg #[.int .i64 z.f0, .string z.f1, .int .i64 z.f2, .slice Z_3 z.f3.length Z_c3, .slice Z_4 z.f4.length Z_c4]] (by rfl) rfl rfl (by (try simp only [List.map_toArray, List.map_cons, List.map_nil]); first | done | rfl) ?_
  refine (specFmt' HF.out _ _ _ _ _ Iz.out (by omega)).mono ?_
  rintro e w6 ⟨rfl, b⟩
  replace Kx := Lib.hid (blk_below Kx.out b)
  replace Kz := Lib.hid (blk_below Kz.out b)
  replace Ix := Lib.hid (Ix.out.below b)
  replace Iz := Lib.hid (Iz.out.below b)
  replace Iu := Lib.hid (Iu.out.below b)
  replace BW := Lib.hid (below_step BW.out b)
  clear b
  refine ⟨_, rfl, ?_⟩
  obtain ⟨p0, p1, p2, p3, p4⟩ := fm_cells Kx.out
  obtain ⟨q0, q1, q2, q3, q4⟩ := fm_cells Kz.out
  refine hK.out _ _ ⟨p0, p1, p2, p3, p4, q0, q1, q2, q3, q4⟩ (fun hHeld => ?_)
  clear hK K
  refine norm_ (a' := ?_) ?_ ?_
  rotate_left
  · show Act.put _ (some 24) _ = _
    simp only [Act.put, List.setIfInBounds_toArray, List.set_cons_zero, List.set_cons_succ, i64_w, i32_w]
    rfl
  clear p0 p1 p2 p3 p4 q0 q1 q2 q3 q4
  refine pure_ (i := 9) (N := some 25) (v := .bool false) (a' := ?_) #[true, true, true, true, true, true, true, true, true, true, false] rfl rfl (by kernel_rfl) (fun _ _ _ h => h) (Or.inl ⟨by rfl, ?_⟩) ?_ ?_
  · intro w'
    go_simp
    first | done | rfl | simp
  rotate_left
  · simp only [Act.put, List.setIfInBounds_toArray, List.set_cons_zero, List.set_cons_succ, i64_w, i32_w]
    rfl
  refine pure_ (i := 10) (N := some 26) (v := ?_) (a' := ?_) #[true, true, true, true, true, true, true, true, true, true, true] rfl rfl (by kernel_rfl) (fun _ _ _ h => h) (Or.inl ⟨by rfl, ?_⟩) ?_ ?_
  rotate_left
  · intro w'
    go_simp
    with_reducible rfl
  rotate_left
  · simp only [Act.put, List.setIfInBounds_toArray, List.set_cons_zero, List.set_cons_succ, i64_w, i32_w]
    rfl
  refine done_ (by kernel_rfl) ?_
  go_wp2_with fail
  go_loopg [6] s.size (fun kq v6 w' => ∃ i : Nat, i ≤ s.size ∧ s.size - i ≤ kq ∧ v6 = .int .i64 i ∧ Aside0 (Below w6.heap.size w6 w'))
  case atStart => exact ⟨0, Nat.zero_le _, by omega, rfl, ⟨Below.refl _ _⟩⟩
  case round =>
    obtain ⟨i, hii, hgi, rfl, HW⟩ := hrel
    replace Kx := Lib.hid (blk_below Kx.out HW.out)
    replace Kz := Lib.hid (blk_below Kz.out HW.out)
    replace Ix := Lib.hid (Ix.out.below HW.out)
    replace Iz := Lib.hid (Iz.out.below HW.out)
    replace Iu := Lib.hid (Iu.out.below HW.out)
    replace BW := Lib.hid (below_step BW.out HW.out)
    replace HW := Lib.hid HW.out
    by_cases hlti : i < s.size
    · have hb1 := (HB.out).1 i hlti
      obtain ⟨hb2, hb3⟩ := byte_lt s i hlti
      go_wp2_with fail
      go_roundg (s.size - (i + 1))
      case measure => omega
      case rel => exact ⟨i + 1, by omega, Nat.le_refl _, by go_num, ⟨HW.out⟩⟩
    · obtain rfl : i = s.size := by omega
      by_cases hsn : s.toList = []
      · have hn1 : (s.toList == []) = true := by rw [hsn]; rfl
        have hv : pB (FmOk x) = false := by
          rcases ok_cases x with ⟨h, _⟩ | ⟨_, h⟩
          · exact absurd (HZ.out.1 ▸ HZ.out.2 h) (HB.out.2 hsn)
          · exact h
        clear hsn
        obtain ⟨p0, p1, p2, p3, p4⟩ := fm_cells Kx.out
        go_wp2_with fail
        clear p0 p1 p2 p3 p4
        refine (implValid' hv _ _ _ _ _ Ix.out (by omega)).mono ?_
        rintro e w7 ⟨rfl, b⟩
        replace Kx := Lib.hid (blk_below Kx.out b)
        replace Kz := Lib.hid (blk_below Kz.out b)
        replace Ix := Lib.hid (Ix.out.below b)
        replace Iz := Lib.hid (Iz.out.below b)
        replace Iu := Lib.hid (Iu.out.below b)
        replace HW := Lib.hid (below_step HW.out b)
        replace BW := Lib.hid (below_step BW.out b)
        clear b
        go_wp2_with fail
        go_ret
        exact ⟨rfl, by repeat (first | exact BW.out | refine below_alloc ?_ _)⟩
      · have hn1 : (s.toList == []) = false := by rw [beq_eq_false_iff_ne]; exact hsn
        clear hsn
        go_wp2_with fail
        go_ret
        exact ⟨rfl, by repeat (first | exact BW.out | refine below_alloc ?_ _)⟩
end Go.Proofs.YteeepenncddnjaaDoor
end
section
namespace Go.Proofs.YteeepenncddnjaaDoor.fnStripText
open Go.ChangeShapes Go.WideShapes Go.ChangeAt Go.RowKit Go.Proofs.YteeepenncddnjaaDoor
open Go.ChangeMaps (open_string shut_string)
set_option linter.unusedVariables false
theorem own : ownKnob Tryd.prog.godebug = none := by kernel_rfl
theorem laidOut : laidOutB Tryd.prog = true := by kernel_rfl
def IsRow (k : IntKind) (w : World) (a : Option Addr) (len cap : Nat) (zs : List Int) : Prop :=
  (a = none ∧ len = 0 ∧ cap = 0 ∧ zs = []) ∨
  ∃ x, a = some x ∧ len ≤ cap ∧ cap ≤ maxLen ∧ zs.length = cap ∧ (∀ i, i < zs.length → w.cell? (x.add i) = some (.int k (zs.getD i 0))) ∧ ∀ n ∈ zs, (Lit.int k n).wf = true
set_option maxRecDepth 100000 in
theorem lifted (os : Os) (started : os.Started) (H : Type) (enc : TypeId × Value → H) :
    ReturnsInHanded {} Tryd.checked os 4 .any (fun w args => (Rows.fnStripTextSpec.pre enc Tryd.prog Tryd.f4 [] false w args ∧ laidMetH Tryd.prog laid3 w) ∧ sizedMet enc Tryd.prog Tryd.f4 (OpenSpec.ofChange Rows.fnStripTextSpec) false w args) (Rows.fnStripTextSpec.post enc Tryd.prog Tryd.f4 false true false false) := by
  refine returnsInHanded_of_change_and (C := Tryd.checked) (X := fun w _ => laidMetH Tryd.prog laid3 w) (fun _ _ _ hh h => h.of_heap hh) own started (by kernel_rfl) Tryd.func4
    (ChangeSpec.witness_shaped (enc := enc) (C := Tryd.checked) (os := os) (X := fun w _ => laidMetH Tryd.prog laid3 w) false (World.doorLaid Tryd.prog 400 os) #[.slice none 0 0] 8 rfl (World.shaped_of_RefB (by kernel_rfl) (by kernel_rfl)) (by kernel_rfl) (by kernel_rfl) (by kernel_rfl) (door_met os _)) ?_
  intro W base args ds gs before hval0 hW hcnd hsz0 hL _
  have hsz : (DataW.weightsEach Tryd.prog (Tryd.f4.params.toList ++ Rows.fnStripTextSpec.plain.varTypes Tryd.prog) (ds ++ gs)).all (· ≤ reachBytes) = true := hsz0
  have hval : ∀ (j : Nat) t v, Tryd.f4.params[j]? = some t → args[j]? = some v → Value.okWide Tryd.prog W .any base t v := hval0
  have hW' := hW
  obtain ⟨p, q, hA0, hV, rfl, hfz, hnd⟩ := hW
  have hA : DataW.TrodAll enc Tryd.prog W 0 (fun _ => true) true Tryd.f4.params.toList args.toList ds p := hA0
  rw [Tryd.params4] at hA hval hsz
  obtain ⟨v0, vs0, d0, ds0, p0, q0, hargs, rfl, rfl, h0, r0⟩ := trodAll_cons hA
  obtain ⟨rfl, rfl, rfl⟩ := trodAll_nil r0
  obtain rfl : args = #[v0] := by cases args; simp_all
  obtain ⟨rfl, rfl⟩ := trodVars_none hV
  obtain ⟨a0, len0, cap0, rfl⟩ := okWide_slice Tryd.underlying22 (hval 0 22 v0 rfl rfl)
  have k0 := h0
  have lt0 : ∀ x ∈ p0, x.block < W.heap.size := by obtain ⟨m, hm⟩ := k0; exact DataW.trod_lt m _ _ _ hm
  obtain ⟨z0, w0⟩ : ∃ zs, IsRow .u8 W a0 len0 cap0 zs := by
    obtain ⟨fuel, hf⟩ := h0
    rcases open_ints Tryd.underlying22 Tryd.underlying5 (by kernel_rfl) hf with ⟨hcs, _⟩ | ⟨x, l, c, zs, hcs, _, hl, hm, hz, _, hcell, hwz⟩
    · simp [Value.cells] at hcs
      obtain ⟨rfl, rfl, rfl⟩ := hcs
      exact ⟨[], .inl ⟨rfl, rfl, rfl, rfl⟩⟩
    · simp [Value.cells] at hcs
      obtain ⟨rfl, rfl, rfl⟩ := hcs
      exact ⟨zs, .inr ⟨_, rfl, hl, hm, by simpa using hz, hcell, hwz⟩⟩
  have y0 : len0 * 1 ≤ 140737488351232 := Go.Proofs.YteeepenncddnjaaDoorW.PrintWords.sized_ints hsz (j := 0) (t := 22) rfl rfl Tryd.underlying22 Tryd.underlying5 (by kernel_rfl) (by kernel_rfl) h0
  obtain ⟨l0, rfl, hr0, hm0, hw0, hc0⟩ := Go.Proofs.YteeepenncddnjaaDoorW.PrintWords.ReadsInt.ofRowC w0
  clear hA0 hval0 hsz0 hsz
  refine (fnStripText_walk _ _ l0 W (Go.Proofs.YteeepenncddnjaaDoorW.PrintWords.Kd.C_of_reads (d := (0 : Int)) (h1 := fun _ => rfl) hr0) hc0 y0 hw0 (tab_of hL)).mono fun e W' ⟨he, bel⟩ => ?_
  subst he
  exact ⟨_, rfl, _, _, _, [], _, [], hW', trodAll_mk1 (shut_bool Tryd.underlying4 _), (trodAll_cons_mk (Below.trod laidOut (by kernel_rfl) (of_decide_eq_true (by kernel_rfl)) k0 bel lt0) trodAll_mk0), rfl, bel.frame _, fun h => by cases h⟩
set_option maxRecDepth 100000 in
theorem closed : joinedFacts Tryd.prog 4 Tryd.f4 Rows.fnStripTextSpec Rows.fnStripTextRow = true := by
  unfold joinedFacts
  refine Bool.and_eq_true_iff.2 ⟨Bool.and_eq_true_iff.2 ⟨Bool.and_eq_true_iff.2 ⟨Bool.and_eq_true_iff.2 ⟨Bool.and_eq_true_iff.2 ⟨Bool.and_eq_true_iff.2 ⟨Bool.and_eq_true_iff.2 ⟨?_, mayEnter_yes⟩, (congrArg (fun b => Rows.fnStripTextRow.lifted == b) liftsFinal_no).trans (by kernel_rfl)⟩, (congrArg (fun b => b == some Rows.fnStripTextRow.make) make_cut).trans (by kernel_rfl)⟩, ?_⟩, ?_⟩, ?_⟩, ?_⟩
  all_goals kernel_rfl
theorem over : Rows.fnStripTextRow.holds Tryd.pinned (OpenSpec.ofChange Rows.fnStripTextSpec) :=
  OpenClaim.holds_of_wide 4 Tryd.f4 rfl rfl rfl rfl rfl rfl rfl ⟨rfl, rfl, rfl, rfl, rfl⟩ rfl rfl rfl rfl rfl (by kernel_rfl) Tryd.func4 closed
    (of_decide_eq_true (by kernel_rfl)) (by unfold Func.isWrapper; first | (rw [if_pos (by decide +kernel)]; kernel_rfl) | (rw [if_neg (by decide +kernel)]; exact ⟨rfl, rfl⟩))
    (fun os started H enc _ => lifted os started H enc)
end Go.Proofs.YteeepenncddnjaaDoor.fnStripText
namespace Go.Proofs.YteeepenncddnjaaDoor
/-- The row. -/
theorem fnStripText_row : Rows.FnStripTextSaid := fnStripText.over
theorem fnStripText_tie3 : Rows.fnStripTextRow.laidByTextAt .later Tryd.pinned [.data, .data, .data] true := OpenClaim.laidByTextAt_later rfl rfl tie (by kernel_rfl)
/-- The tied card. -/
theorem fnStripText_holds : Rows.FnStripTextCardSaid :=
  Claim7.holds_tied_plain_at .later [] [.data, .data, .data] true (true, "d6c602bbc3bef5f822d3e324f773950865682dcf61708e441e970ce1caecdbd3") false
    fnStripText_row (fun _ h => by cases h) (by kernel_rfl) (fun _ h => by cases h) fnStripText_tie3 rfl ⟨rfl, rfl⟩ (by kernel_rfl) rfl
    (fun f fn hf hfn => by
      obtain rfl : f = 4 := Option.some.inj ((show Tryd.prog.funcNamed "loop.example/macroexpander/laws.FnStripText" = some 4 by kernel_rfl).symm.trans hf) |>.symm
      obtain rfl : fn = Tryd.f4 := (Option.some.inj (Tryd.func4.symm.trans hfn)).symm
      exact ⟨by kernel_rfl, fun j t ht => by
        rw [Tryd.params4] at ht
        have hm : t ∈ [22] := by simpa using Array.mem_of_getElem? ht
        have hall : ([22].all fun u => !Tryd.prog.wantsStandIn u) = true := by kernel_rfl
        exact (show Tryd.prog.wantsStandIn t = false by simpa using List.all_eq_true.1 hall t hm)⟩)
    (by kernel_rfl)
#print axioms fnStripText_holds
end Go.Proofs.YteeepenncddnjaaDoor
end
