/- Words for the laws' proofs (part 2): contracts of functions, and plain lemmas. -/
import Derived.Deep.RegionHeld3
import Derived.Ground.Names2Prog
import Derived.IntWalk
import Derived.Laws.IdiomStrings
import Derived.Lib.Bytealg
import Derived.Lib.LazyBuf
import Derived.Lib.SliceRun
import Derived.Lib.Strings
import Derived.Shelf.Abstract
import Derived.Shelf.Slices.Empties
import Derived.Shelf.Slices.SearchI
import Derived.Shelf.Spec.SlicesInsertGrow
import Derived.Test.YtnaefjilcabkoaaKb1
section
namespace Go.Proofs.Ytnaefjilcabkoaa
open Go.RowKit Go.Proofs.YtnaefjilcabkoaaW.PrintWords Go.Proofs.YtnaefjilcabkoaaW.PrintLast Go.Proofs.YtnaefjilcabkoaaW.PrintMore
set_option linter.unusedVariables false
set_option linter.unusedSimpArgs false

theorem infoF : (Try.prog.info? 29).map (fun i => (i.zero, i.size, i.bytes)) = some (some (.agg #[(.int .i64 0), (.string ⟨#[]⟩), (.int .i64 0), (.slice none 0 0), (.slice none 0 0)]), 5, 80) := by kernel_rfl
/-- A form in new memory, from block B on. -/
def NewF (B : Nat) (w' : World) (x : Fm) (v3 v4 : Value) : Prop := ∃ fp, TrF w' x v3 v4 fp ∧ fp.Nodup ∧ ∀ b, b ∈ fp → B ≤ b
/-- A list of forms in new memory, from block B on. -/
def NewL (B : Nat) (w' : World) (ks : List Fm) (v : Value) : Prop := ∃ inner fp, w'.ownsRow 0 29 5 v ks.length inner ∧ TrL w' ks inner fp ∧ (obs v ++ fp).Nodup ∧ ∀ b, b ∈ obs v ++ fp → B ≤ b
def RetF (w : World) (x : Fm) (e : Ending) (w' : World) : Prop := ∃ v3 v4, e = .returned (.agg #[.int .i64 x.f0, .string x.f1, .int .i64 x.f2, v3, v4]) ∧ NewF w.heap.size w' x v3 v4 ∧ Below w.heap.size w w'
def RetL (w : World) (ks : List Fm) (e : Ending) (w' : World) : Prop := ∃ v, e = .returned v ∧ NewL w.heap.size w' ks v ∧ Below w.heap.size w w'

/-- As the print tells what is the call's own. -/
theorem TrF.R {w : World} {B : Nat} : ∀ (x : Fm) {v3 v4 : Value} {fp : List Nat} {ok : Nat → Prop}, TrF w x v3 v4 fp → fp.Nodup → (∀ b, b ∈ fp → B ≤ b) → (∀ b, b ∈ fp → ok b) → kI.R 3 w B ok v3 x.f3 ∧ kF.R 29 w B (fun k => ok k ∧ some k ≠ v3.ownBlock) v4 x.f4 := by
  intro x
  induction x using Fm.ind with
  | h x ih =>
    intro v3 v4 fp ok h hnd hge hok
    obtain ⟨inner, fk, rfl, h3, h4, hk⟩ := h.open
    obtain ⟨n1, n2, n3⟩ := List.nodup_append.1 hnd
    obtain ⟨n4, n5, n6⟩ := List.nodup_append.1 n2
    refine ⟨Kd.R_of_own (own_base_ h3 (fun b hb => hge b (by simp [obs_mem, hb]))) (fun k hk => hok k (by simp [obs_mem, hk])), fun k hk => ⟨hok k (by simp [obs_mem, hk]), fun he => n3 k (obs_mem.2 he.symm) k (by simp [obs_mem, hk]) rfl⟩, inner, own_base_ h4 (fun b hb => hge b (by simp [obs_mem, hb])), ?_⟩
    have key : ∀ (ks : List Fm), (∀ k, k ∈ ks → k ∈ x.f4) → ∀ {inner : List Value} {fk : List Nat}, TrL w ks inner fk → fk.Nodup → (∀ b, b ∈ fk → B ≤ b) → (∀ b, b ∈ fk → ok b ∧ some b ≠ v3.ownBlock ∧ some b ≠ v4.ownBlock) → Reps (kF.M w B (fun k => (ok k ∧ some k ≠ v3.ownBlock) ∧ some k ≠ v4.ownBlock)) 5 ks inner := by
      intro ks
      induction ks with
      | nil => intro _ inner fk h _ _ _; obtain ⟨rfl, rfl⟩ := h.nil_inv; exact Reps.none _ _
      | cons k ks ih2 =>
        intro hsub inner fk h hnd hge hok
        obtain ⟨u3, u4, rest, f1, f2, rfl, rfl, hk, hs⟩ := h.cons_inv
        obtain ⟨m1, m2, m3⟩ := List.nodup_append.1 hnd
        have hR := ih k (hsub k List.mem_cons_self) (ok := fun k => (ok k ∧ some k ≠ v3.ownBlock) ∧ some k ≠ v4.ownBlock) hk m1 (fun b hb => hge b (List.mem_append_left _ hb)) (fun b hb => ⟨⟨(hok b (List.mem_append_left _ hb)).1, (hok b (List.mem_append_left _ hb)).2.1⟩, (hok b (List.mem_append_left _ hb)).2.2⟩)
        have hr := ih2 (fun k hk => hsub k (List.mem_cons_of_mem _ hk)) hs m2 (fun b hb => hge b (List.mem_append_right _ hb)) (fun b hb => hok b (List.mem_append_right _ hb))
        refine ⟨by rw [List.length_append, hr.1]; simp; omega, fun j p hj => ?_⟩
        cases j with
        | zero =>
          have : k = p := by simpa using hj
          subst this
          simpa using kF_mkM hR.1 (Kd.R_mono hR.2 (fun _ h => h.1))
        | succ j =>
          have h2 := hr.2 j p (by simpa using hj)
          rw [show (j + 1) * 5 = 5 + j * 5 from by omega, ← List.drop_drop]
          simpa using h2
    refine key x.f4 (fun _ h => h) hk n5 (fun b hb => hge b (by simp [hb])) (fun b hb => ⟨hok b (by simp [hb]), fun he => n3 b (obs_mem.2 he.symm) b (by simp [hb]) rfl, fun he => n6 b (obs_mem.2 he.symm) b hb rfl⟩)
theorem trz (w : World) : TrF w zFm (.slice none 0 0) (.slice none 0 0) [] := by
  have := TrF.mk (w := w) zFm (.slice none 0 0) (.slice none 0 0) [] [] (own_nil _ _ _ _) (own_nil _ _ _ _) .nil
  simpa [obs, Value.ownBlock] using this
abbrev zc : List Value := [.int .i64 0, .string ⟨#[]⟩, .int .i64 0, .slice none 0 0, .slice none 0 0]
theorem zc_raw (w : World) (base : Nat) (ok : Nat → Prop) : (Kd.raw 5).M w base ok zc (Value.agg #[(.int .i64 0), (.string ⟨#[]⟩), (.int .i64 0), (.slice none 0 0), (.slice none 0 0)]).cells.toList := by
  refine ⟨rfl, rfl, fun u hu => ?_⟩
  have hu' : u ∈ zc := hu
  simp only [zc, List.mem_cons, List.not_mem_nil, or_false] at hu'
  rcases hu' with rfl | rfl | rfl | rfl | rfl <;> rfl
theorem reps_flat {sz : Nat} (hs : 0 < sz) : ∀ (rows : List (List Value)) (inner : List Value), Reps (fun x cs => cs = x ∧ cs.length = sz ∧ ∀ u ∈ cs, u.oneCell' = true) sz rows inner → inner = rows.flatten := by
  intro rows
  induction rows with
  | nil => intro inner h; have := h.1; simp at this; simp [this]
  | cons r rows ih =>
    intro inner h
    have h0 := h.2 0 r rfl
    simp only [Nat.zero_mul, List.drop_zero] at h0
    have h1 : Reps (fun x cs => cs = x ∧ cs.length = sz ∧ ∀ u ∈ cs, u.oneCell' = true) sz rows (inner.drop sz) := by
      refine ⟨by rw [List.length_drop, h.1, List.length_cons, Nat.add_mul]; omega, fun j p hj => ?_⟩
      have := h.2 (j + 1) p (by simpa using hj)
      rwa [Nat.add_mul, Nat.one_mul, Nat.add_comm, ← List.drop_drop] at this
    rw [List.flatten_cons, ← ih _ h1, ← h0.1, List.take_append_drop]
/-- What make([]Form, n) leaves. -/
theorem zeros_of {w : World} {base : Nat} {ok : Nat → Prop} {v : Value} {n : Nat} (h : (Kd.raw 5).R 29 w base ok v (List.replicate n zc)) : w.ownsRow 0 29 5 v n (List.replicate n zc).flatten := by
  obtain ⟨_, inner, ho, hr⟩ := h
  rw [reps_flat (by omega) _ _ hr, List.length_replicate] at ho
  exact own_weaken ho (Nat.zero_le _)
def ToForm (x : Fm) : Prop := ∀ (A3 : Option Addr) (c3 : Nat) (A4 : Option Addr) (c4 : Nat) (w : World), FmIn w x A3 c3 A4 c4 → x.tot ≤ 1048576 →
    Calls Try.prog 16 #[.agg #[.int .i64 x.f0, .string x.f1, .int .i64 x.f2, .slice A3 x.f3.length c3, .slice A4 x.f4.length c4]] w (RetF w x)
set_option maxHeartbeats 4000000 in
theorem toFormS_of (ks : List Fm) (hks : ∀ k, k ∈ ks → ToForm k) (A : Option Addr) (c : Nat) (w : World) (hr : kF.C w A ks.length ks) (hc : ks.length ≤ c) (ht : totL ks ≤ 1048576) :
    Calls Try.prog 46 #[.slice A ks.length c] w (RetL w ks) := by
  have hmax := hr.2.1
  have hlen := len_totL ks
  have HK := Lib.hid hks
  clear hks
  go_enter Try.func46, Try.ntmps46
  go_wp2_with (first | ((with_reducible refine gate_dst (N := 7) rfl ?_); refine Kd.R_make (Kd.raw 5) _ 29 rfl (N := 7) rfl 27 _ _ rfl (ks.length : Int) rfl rfl Try.underlying27 (.agg #[(.int .i64 0), (.string ⟨#[]⟩), (.int .i64 0), (.slice none 0 0), (.slice none 0 0)]) 80 infoF rfl (by decide) (by omega) zc (ok := fun _ => True) (okp := fun _ => True) (zc_raw _ _ _) (fun _ hk => hk) trivial (by omega) (by omega) (Below.refl _ _) (Nat.le_refl _) ?_; intro v0 w0 ho0 hb0 hg0 hn0))
  rw [Int.toNat_natCast] at ho0
  have hz := zeros_of ho0
  obtain ⟨bn, hbn1, hbn2⟩ := hn0
  go_loopg [4] ks.length (fun kq v4 w' => ∃ i : Nat, i ≤ ks.length ∧ ks.length - i ≤ kq ∧ v4 = .int .i64 i ∧ Aside0 (∃ inner fp, w'.ownsRow 0 29 5 v0 ks.length (inner ++ (List.replicate (ks.length - i) zc).flatten) ∧ TrL w' (ks.take i) inner fp ∧ (obs v0 ++ fp).Nodup ∧ ∀ b, b ∈ obs v0 ++ fp → w.heap.size ≤ b) ∧ Aside0 (Below w.heap.size w w'))
  case atStart =>
    refine ⟨0, Nat.zero_le _, by omega, rfl, ⟨[], [], by simpa using hz, by simpa using TrL.nil, by simp [obs, hbn1], by simpa [obs, hbn1] using hbn2⟩, ⟨hb0⟩⟩
  case round =>
    obtain ⟨i, hi, hg, rfl, HO, HW⟩ := hrel
    clear ho0 hz hb0 hg0 hbn1 hbn2
    by_cases hlt : i < ks.length
    · obtain ⟨ad, B3, d3, B4, d4, e, g0, g1, g2, g3, g4, hk⟩ := kid_at (Kd.C_below hr HW.out) i hlt
      subst e
      have hkt := totL_mem (List.getElem_mem hlt)
      have HC := Lib.hid (HK.out ks[i] (List.getElem_mem hlt) B3 d3 B4 d4 wr hk (by omega))
      clear hk
      go_wp2_with fail
      refine HC.out.mono ?_
      rintro e w1 ⟨v3, v4, rfl, HN, hb1⟩
      obtain ⟨C3, j3, C4, j4, e3, e4⟩ : ∃ C3 j3 C4 j4, v3 = .slice C3 ks[i].f3.length j3 ∧ v4 = .slice C4 ks[i].f4.length j4 := by
        obtain ⟨fk, hkt2, _⟩ := HN
        obtain ⟨C3, j3, C4, j4, e3, e4, _⟩ := hkt2.In
        exact ⟨C3, j3, C4, j4, e3, e4⟩
      subst e3
      subst e4
      have HO2 := HO.out
      clear HO
      obtain ⟨inner, fp, ho, htr, hnd, hge⟩ := HO2
      rw [show ks.length - i = (ks.length - (i + 1)) + 1 from by omega, List.replicate_succ, List.flatten_cons] at ho
      obtain ⟨g, cap, e, hg0, hg1⟩ := ho.form (by omega)
      subst e
      have ho1 := own_move (w1 := w1) ho (fun k hk => by
        have : g = k := by simpa [Value.ownBlock] using hk
        subst this
        exact hb1.block g hg1)
      have htr1 := htr.later hb1
      have hl := htr.len
      rw [List.length_take, Nat.min_eq_left hi] at hl
      obtain ⟨⟨q0, q1, q2, q3, q4⟩, hfz, hput⟩ := row_put ho1 hl
      have z0 := hfz (i * 5)
      have z1 := hfz (i * 5 + 1)
      have z2 := hfz (i * 5 + 2)
      have z3 := hfz (i * 5 + 3)
      have z4 := hfz (i * 5 + 4)
      have hgw : w.heap.size ≤ g := hge g (by simp [obs, Value.ownBlock])
      have HF : Hid (∃ inner' fp', (set5 w1 g (i * 5) (.int .i64 ks[i].f0) (.string ks[i].f1) (.int .i64 ks[i].f2) (.slice C3 ks[i].f3.length j3) (.slice C4 ks[i].f4.length j4)).ownsRow 0 29 5 (.slice (some ⟨g, 0, none⟩) ks.length cap) ks.length (inner' ++ (List.replicate (ks.length - (i + 1)) zc).flatten) ∧ TrL (set5 w1 g (i * 5) (.int .i64 ks[i].f0) (.string ks[i].f1) (.int .i64 ks[i].f2) (.slice C3 ks[i].f3.length j3) (.slice C4 ks[i].f4.length j4)) (ks.take (i + 1)) inner' fp' ∧ (obs (.slice (some ⟨g, 0, none⟩) ks.length cap) ++ fp').Nodup ∧ ∀ b, b ∈ obs (.slice (some ⟨g, 0, none⟩) ks.length cap) ++ fp' → w.heap.size ≤ b) := by
        obtain ⟨fk, hkt2, hknd, hkge⟩ := HN
        have hold : ∀ b, b ∈ obs (Value.slice (some ⟨g, 0, none⟩) ks.length cap) ++ fp → b < wr.heap.size := by
          intro b hb
          rcases List.mem_append.1 hb with hb | hb
          · have : b = g := by simpa [obs, Value.ownBlock] using hb
            omega
          · exact htr.lt _ b hb
        have hgf : ∀ b, b ∈ fp → b ≠ g := by
          intro b hb he
          subst he
          rw [show obs (Value.slice (some ⟨b, 0, none⟩) ks.length cap) = [b] from rfl] at hnd
          simp [hb] at hnd
        have hgk : ∀ b, b ∈ fk → b ≠ g := by
          intro b hb he
          have := hkge b hb
          omega
        refine ⟨inner ++ [.int .i64 ks[i].f0, .string ks[i].f1, .int .i64 ks[i].f2, .slice C3 ks[i].f3.length j3, .slice C4 ks[i].f4.length j4], fp ++ fk, ?_, ?_, ?_, ?_⟩
        · rw [List.append_assoc]
          exact hput _ _ _ _ _
        · rw [List.take_succ_eq_append_getElem hlt]
          exact (htr1.move _ (fun b hb => set5_far _ _ _ _ _ _ _ _ b (hgf b hb))).append (TrL.one (hkt2.move _ (fun b hb => set5_far _ _ _ _ _ _ _ _ b (hgk b hb))))
        · rw [← List.append_assoc, List.nodup_append]
          refine ⟨hnd, hknd, fun a ha b hb he => ?_⟩
          have h1 := hold a ha
          have h2 := hkge b hb
          omega
        · intro b hb
          rw [← List.append_assoc] at hb
          rcases List.mem_append.1 hb with hb | hb
          · exact hge b hb
          · have h2 := hkge b hb
            have := HW.out.size
            omega
      have HB := Lib.hid (set5_below (below_step HW.out hb1) hgw (i * 5) (.int .i64 ks[i].f0) (.string ks[i].f1) (.int .i64 ks[i].f2) (.slice C3 ks[i].f3.length j3) (.slice C4 ks[i].f4.length j4))
      clear HN ho ho1 htr htr1 hnd hge hl hfz hput hgw hg0 hg1
      go_wp2_with fail
      go_roundg (ks.length - (i + 1))
      case measure => omega
      case rel => exact ⟨i + 1, by omega, Nat.le_refl _, by go_num, ⟨HF.out⟩, ⟨HB.out⟩⟩
    · obtain rfl : i = ks.length := by omega
      have HF : Hid (NewL w.heap.size wr ks v0) := by
        obtain ⟨inner, fp, ho, htr, hnd, hge⟩ := HO.out
        rw [Nat.sub_self] at ho
        rw [List.take_length] at htr
        exact ⟨inner, fp, by simpa using ho, htr, hnd, hge⟩
      clear HO
      go_wp2_with fail
      go_ret
      exact ⟨_, rfl, HF.out, HW.out⟩
set_option maxHeartbeats 4000000 in
theorem toForm_any (x : Fm) : ToForm x := by
  induction x using Fm.ind with
  | h x ih =>
    intro A3 c3 A4 c4 w hin ht
    have hs := Fm.tot_eq x
    have hs3 : x.f3.length ≤ 1048576 := by omega
    have hs4 : totL x.f4 ≤ 1048576 := by omega
    clear hs ht
    have H3 := Lib.hid (fun W hb => toIntS_any x.f3 A3 c3 W (Kd.C_below hin.g3 hb) hin.l3 (by omega))
    have H4 := Lib.hid (fun W hb => toFormS_of x.f4 ih A4 c4 W (Kd.C_below hin.g4 hb) hin.l4 hs4)
    clear ih hin
    go_enter Try.func16, Try.ntmps16
    go_wp2_with fail
    refine (H3.out _ (below_step (below_step (below_new _ _) (below_new _ _)) (below_new _ _))).mono ?_
    rintro e w1 ⟨v3, rfl, hR3, hb1⟩
    obtain ⟨k0, k1, k2, b1⟩ := three_new hb1
    clear hb1
    obtain ⟨p0, p1, p2, p3, p4⟩ := fm_cells k0
    obtain ⟨q0, q1, q2, q3, q4⟩ := fm_cells k2
    obtain ⟨f0, f1, f2, f3, f4⟩ := fm_free k2
    obtain ⟨D3, e3, r3, _, _⟩ := Kd.R_reads hR3
    subst r3
    go_wp2_with fail
    have bw := below_set b1 (show w.heap.size ≤ w.heap.size + 1 + 1 by omega) (j := 3) (v := .slice D3 x.f3.length e3)
    refine (H4.out _ bw).mono ?_
    rintro e w2 ⟨v4, rfl, HL, hb2⟩
    have m2 := blk_below (by simpa using blk_set k2 3 (.slice D3 x.f3.length e3)) hb2
    have m1 := blk_below (blk_far k1 (p := ⟨w.heap.size + 1 + 1, 3, none⟩) (by simp) (.slice D3 x.f3.length e3)) hb2
    have b2 := below_step bw hb2
    obtain ⟨s0, s1, s2, s3, s4⟩ := fm_cells m2
    obtain ⟨t0, t1, t2, t3, t4⟩ := fm_free m2
    obtain ⟨u0, u1, u2, u3, u4⟩ := fm_cells m1
    obtain ⟨y0, y1, y2, y3, y4⟩ := fm_free m1
    have h3b := Kd.R_base hR3
    have h3l := Kd.R_lt hR3
    have h3o := Kd.own_of_R hR3
    obtain ⟨inner, fp, h4o, htl, hnd, hge⟩ := HL
    obtain ⟨D4, e4, hd4, _, _⟩ := htl.C h4o
    subst hd4
    have hwsz : ((((w.alloc (.cells #[.int .i64 x.f0, .string x.f1, .int .i64 x.f2, .slice A3 x.f3.length c3, .slice A4 x.f4.length c4] 25)).alloc (.cells #[.int .i64 0, .string ⟨#[]⟩, .int .i64 0, .slice none 0 0, .slice none 0 0] 29)).alloc (.cells #[.int .i64 x.f0, .string x.f1, .int .i64 x.f2, .slice none 0 0, .slice none 0 0] 29)) : World).heap.size = w.heap.size + 3 := by simp
    have HF : Hid (∀ W, (∀ b, b ≠ w.heap.size + 1 → b ≠ w.heap.size + 1 + 1 → W.heap[b]? = w2.heap[b]?) → NewF w.heap.size W x (.slice D3 x.f3.length e3) (.slice D4 x.f4.length e4)) := by
      intro W hW
      have hsz1 := k2
      have hlt1 : w.heap.size + 1 + 1 < w1.heap.size := blk_lt k2
      have hge2 : ∀ b, b ∈ obs (.slice D4 x.f4.length e4) ++ fp → w1.heap.size ≤ b := by
        intro b hb
        have := hge b hb
        simpa using this
      have hge3 : ∀ b, b ∈ obs (.slice D3 x.f3.length e3) → w.heap.size + 1 + 1 < b ∧ b < w1.heap.size := by
        intro b hb
        have e := obs_mem.1 hb
        have h1 := h3b b e
        have h2 := h3l b e
        simp at h1
        omega
      refine ⟨_, .mk x _ _ inner fp ?_ ?_ ?_, ?_, ?_⟩
      · refine own_move (own_weaken h3o (Nat.zero_le _)) (fun k hk => ?_)
        have hk2 := hge3 k (obs_mem.2 hk)
        rw [hW k (by omega) (by omega), hb2.block k (by simp; omega), Below.heap_setCell _ _ _ _ (by simp; omega)]
      · refine own_move h4o (fun k hk => ?_)
        have hk2 := hge2 k (List.mem_append_left _ (obs_mem.2 hk))
        exact hW k (by omega) (by omega)
      · refine htl.move _ (fun k hk => ?_)
        have hk2 := hge2 k (List.mem_append_right _ hk)
        exact hW k (by omega) (by omega)
      · rw [List.nodup_append]
        refine ⟨?_, hnd, fun a ha b hb he => ?_⟩
        · unfold obs
          cases (Value.slice D3 x.f3.length e3).ownBlock <;> simp
        · have h1 := hge3 a ha
          have h2 := hge2 b hb
          omega
      · intro b hb
        rcases List.mem_append.1 hb with hb | hb
        · have := hge3 b hb
          omega
        · have := hge2 b hb
          omega
    clear h3b h3l h3o h4o htl hnd hge hwsz hR3 k0 k1 k2 m1 m2 hb2 bw H3 H4
    go_wp2_with fail
    refine bodyPost_ret (v := .agg #[.int .i64 x.f0, .string x.f1, .int .i64 x.f2, .slice D3 x.f3.length e3, .slice D4 x.f4.length e4]) (by simp [results, Try.results16, go_sem, u0, u1, u2, u3, u4]) rfl ⟨_, _, rfl, HF.out _ (fun b hb1 hb2 => ?_), ?_⟩
    · rw [Below.heap_setCell _ _ _ b hb1, Below.heap_setCell _ _ _ b hb1, Below.heap_setCell _ _ _ b hb1, Below.heap_setCell _ _ _ b hb1, Below.heap_setCell _ _ _ b hb1, Below.heap_setCell _ _ _ b hb2]
    · repeat (refine below_set ?_ (by omega))
      exact b2
end Go.Proofs.Ytnaefjilcabkoaa
end
section
namespace Go.Proofs.Ytnaefjilcabkoaa
open Go.RowKit Go.Proofs.YtnaefjilcabkoaaW.PrintWords Go.Proofs.YtnaefjilcabkoaaW.PrintLast Go.Proofs.YtnaefjilcabkoaaW.PrintMore
set_option linter.unusedVariables false
set_option linter.unusedSimpArgs false

noncomputable def eqB {α : Type} (x y : α) : Bool := @decide (x = y) (Classical.propDecidable _)
theorem eqB_iff {α : Type} {x y : α} : eqB x y = true ↔ x = y := by unfold eqB; exact @decide_eq_true_iff _ (Classical.propDecidable _)
theorem eqB_self {α : Type} (x : α) : eqB x x = true := eqB_iff.2 rfl
theorem eqB_no {α : Type} {x y : α} (h : x ≠ y) : false = eqB x y := by
  cases hb : eqB x y with
  | true => exact absurd (eqB_iff.1 hb) h
  | false => rfl
theorem eqB_yes {α : Type} {x y : α} (h : x = y) : true = eqB x y := (eqB_iff.2 h).symm
theorem toList_inj {a b : ByteArray} (h : a.toList = b.toList) : a = b := by
  have e : ∀ s : ByteArray, s.toList = s.data.toList := fun s => by rw [ByteArray.toList_eq]
  rw [e, e] at h
  cases a; cases b
  simp only at h
  rw [Array.toList_inj.1 h]
theorem Fm.ext' {x y : Fm} (h1 : x.f0 = y.f0) (h2 : x.f1 = y.f1) (h3 : x.f2 = y.f2) (h4 : x.f3 = y.f3) (h5 : x.f4 = y.f4) : x = y := by
  cases x; cases y; simp_all
def EqForm (x : Fm) : Prop := ∀ (y : Fm) (A3 : Option Addr) (c3 : Nat) (A4 : Option Addr) (c4 : Nat) (B3 : Option Addr) (d3 : Nat) (B4 : Option Addr) (d4 : Nat) (w : World), FmIn w x A3 c3 A4 c4 → FmIn w y B3 d3 B4 d4 →
    Calls Try.prog 18 #[.agg #[.int .i64 x.f0, .string x.f1, .int .i64 x.f2, .slice A3 x.f3.length c3, .slice A4 x.f4.length c4], .agg #[.int .i64 y.f0, .string y.f1, .int .i64 y.f2, .slice B3 y.f3.length d3, .slice B4 y.f4.length d4]] w (Ret w (.bool (eqB x y)))
set_option maxHeartbeats 4000000 in
set_option maxRecDepth 100000 in
theorem eqFormS_of (ks ls : List Fm) (hks : ∀ k, k ∈ ks → EqForm k) (A B : Option Addr) (c d : Nat) (w : World) (hr : kF.C w A ks.length ks) (hc : ks.length ≤ c) (hr2 : kF.C w B ls.length ls) (hc2 : ls.length ≤ d) :
    Calls Try.prog 48 #[.slice A ks.length c, .slice B ls.length d] w (Ret w (.bool (eqB ks ls))) := by
  have hmax := hr.2.1
  by_cases hl : ks.length = ls.length
  · have hl1 : ((ks.length : Int) == (ls.length : Int)) = true := by simp [hl]
    have hl2 : ((ks.length : Int) != (ls.length : Int)) = false := by simp [hl]
    have hl3 : (ks.length == ls.length) = true := by simp [hl]
    have hl4 : (ks.length != ls.length) = false := by simp [hl]
    have HL := Lib.hid hl
    have HK := Lib.hid hks
    clear hl hks
    go_enter Try.func48, Try.ntmps48
    go_wp2_with fail
    go_loopg [5] ks.length (fun kq v5 w' => ∃ i : Nat, i ≤ ks.length ∧ ks.length - i ≤ kq ∧ v5 = .int .i64 i ∧ Aside0 (∀ j (h : j < ks.length) (h2 : j < ls.length), j < i → ks[j] = ls[j]) ∧ Aside0 (Below w.heap.size w w'))
    case atStart => exact ⟨0, Nat.zero_le _, by omega, rfl, ⟨fun j _ _ h => absurd h (by omega)⟩, ⟨Below.refl _ _⟩⟩
    case round =>
      obtain ⟨i, hi, hg, rfl, HN, HW⟩ := hrel
      by_cases hlt : i < ks.length
      · have hlt2 : i < ls.length := by have := HL.out; omega
        obtain ⟨ad, B3, d3, B4, d4, e, g0, g1, g2, g3, g4, hk⟩ := kid_at (Kd.C_below hr HW.out) i hlt
        subst e
        obtain ⟨ad2, E3, f3, E4, f4, e2, h0, h1, h2, h3, h4, hk2⟩ := kid_at (Kd.C_below hr2 HW.out) i hlt2
        subst e2
        have HC := Lib.hid (fun W (hb : Below wr.heap.size wr W) => HK.out ks[i] (List.getElem_mem hlt) ls[i] B3 d3 B4 d4 E3 f3 E4 f4 W (hk.below hb) (hk2.below hb))
        clear hk hk2
        have p1 : (0 : Int) ≤ (i : Int) := by omega
        have p2 : (i : Int) < (ks.length : Int) := by omega
        have p3 : (i : Int) < (ls.length : Int) := by omega
        go_wp2_with fail
        go_region_held3 (fun w' => w'.cell? (ad.add (i * 5)) = some (.int .i64 ks[i].f0) ∧ w'.cell? ⟨(ad.add (i * 5)).block, (ad.add (i * 5)).off + 1, none⟩ = some (.string ks[i].f1) ∧ w'.cell? ⟨(ad.add (i * 5)).block, (ad.add (i * 5)).off + 2, none⟩ = some (.int .i64 ks[i].f2) ∧ w'.cell? ⟨(ad.add (i * 5)).block, (ad.add (i * 5)).off + 3, none⟩ = some (.slice B3 ks[i].f3.length d3) ∧ w'.cell? ⟨(ad.add (i * 5)).block, (ad.add (i * 5)).off + 4, none⟩ = some (.slice B4 ks[i].f4.length d4) ∧ w'.cell? (ad2.add (i * 5)) = some (.int .i64 ls[i].f0) ∧ w'.cell? ⟨(ad2.add (i * 5)).block, (ad2.add (i * 5)).off + 1, none⟩ = some (.string ls[i].f1) ∧ w'.cell? ⟨(ad2.add (i * 5)).block, (ad2.add (i * 5)).off + 2, none⟩ = some (.int .i64 ls[i].f2) ∧ w'.cell? ⟨(ad2.add (i * 5)).block, (ad2.add (i * 5)).off + 3, none⟩ = some (.slice E3 ls[i].f3.length f3) ∧ w'.cell? ⟨(ad2.add (i * 5)).block, (ad2.add (i * 5)).off + 4, none⟩ = some (.slice E4 ls[i].f4.length f4)) (first | go_keep | exact ⟨ck hb1 g0, ck hb1 g1, ck hb1 g2, ck hb1 g3, ck hb1 g4, ck hb1 h0, ck hb1 h1, ck hb1 h2, ck hb1 h3, ck hb1 h4⟩) ((go_at_call 18; refine (HC.out _ (Below.refl _ _).drew).mono ?_; rintro e w1 ⟨rfl, hb1⟩))
        cases he : eqB ks[i] ls[i] with
        | true =>
          have HE := Lib.hid (eqB_iff.1 he)
          clear he
          go_wp2_with fail
          go_roundg (ks.length - (i + 1))
          case measure => omega
          case rel =>
            refine ⟨i + 1, by omega, Nat.le_refl _, by go_num, ⟨fun j hj hj2 hji => ?_⟩, ⟨below_step HW.out (below_step (Below.refl _ _).drew hb1)⟩⟩
            rcases Nat.lt_or_ge j i with h | h
            · exact HN.out j hj hj2 h
            · obtain rfl : j = i := by omega
              exact HE.out
        | false =>
          have HE := Lib.hid he
          clear he
          go_wp2_with fail
          go_ret
          refine ⟨ret_b (eqB_no (fun h => ?_)), below_step HW.out (below_step (Below.refl _ _).drew hb1)⟩
          have := HE.out
          subst h
          rw [eqB_self] at this
          cases this
      · obtain rfl : i = ks.length := by omega
        go_wp2_with fail
        go_ret
        exact ⟨ret_b (eqB_yes (List.ext_getElem HL.out (fun j hj hj2 => HN.out j hj hj2 hj))), HW.out⟩
  · have hl2 : ((ks.length : Int) != (ls.length : Int)) = true := by simp; omega
    have hl4 : (ks.length != ls.length) = true := by simp [hl]
    have hl1 : ((ks.length : Int) == (ls.length : Int)) = false := by rw [beq_eq_false_iff_ne]; omega
    have hl3 : (ks.length == ls.length) = false := by rw [beq_eq_false_iff_ne]; omega
    have HL := Lib.hid hl
    clear hl
    go_enter Try.func48, Try.ntmps48
    go_wp2_with fail
    go_ret
    exact ⟨ret_b (eqB_no (fun h => HL.out (by rw [h]))), Below.refl _ _⟩
set_option maxHeartbeats 4000000 in
theorem eqForm_any (x : Fm) : EqForm x := by
  induction x using Fm.ind with
  | h x ih =>
    intro y A3 c3 A4 c4 B3 d3 B4 d4 w hx hy
    have HX := Lib.hid (fun (h1 : x.f0 = y.f0) (h2 : x.f1 = y.f1) (h3 : x.f2 = y.f2) (h4 : x.f3 = y.f3) (h5 : x.f4 = y.f4) => Fm.ext' h1 h2 h3 h4 h5)
    have hb1 := below_new w (.cells #[.int .i64 x.f0, .string x.f1, .int .i64 x.f2, .slice A3 x.f3.length c3, .slice A4 x.f4.length c4] 29)
    have hb2 := below_step hb1 (below_new _ (.cells #[.int .i64 y.f0, .string y.f1, .int .i64 y.f2, .slice B3 y.f3.length d3, .slice B4 y.f4.length d4] 29))
    have HB := Lib.hid hb2
    by_cases e1 : x.f0 = y.f0
    · have t1 : (x.f0 == y.f0) = true := by simpa using e1
      have t1' : (x.f0 != y.f0) = false := by simpa using e1
      have E1 := Lib.hid e1
      clear e1
      by_cases e2 : x.f1 = y.f1
      · have t2 : (x.f1.toList == y.f1.toList) = true := by rw [e2]; simp
        have t2' : (x.f1.toList != y.f1.toList) = false := by rw [e2]; simp
        have E2 := Lib.hid e2
        clear e2
        by_cases e3 : x.f2 = y.f2
        · have t3 : (x.f2 == y.f2) = true := by simpa using e3
          have t3' : (x.f2 != y.f2) = false := by simpa using e3
          have E3 := Lib.hid e3
          clear e3
          have HC := Lib.hid (eqIntS_any x.f3 y.f3 A3 B3 c3 d3 _ (Kd.C_below hx.g3 hb2) hx.l3 (Kd.C_below hy.g3 hb2) hy.l3)
          have HK := Lib.hid (fun W hb => eqFormS_of x.f4 y.f4 ih A4 B4 c4 d4 W (Kd.C_below hx.g4 hb) hx.l4 (Kd.C_below hy.g4 hb) hy.l4)
          clear ih hx hy hb1 hb2
          go_enter Try.func18, Try.ntmps18
          go_wp2_with fail
          refine HC.out.mono ?_
          rintro e w1 ⟨rfl, k1⟩
          have hz := blk_below (blk_below (blk_new w (.cells #[.int .i64 x.f0, .string x.f1, .int .i64 x.f2, .slice A3 x.f3.length c3, .slice A4 x.f4.length c4] 29)) (below_new _ _)) k1
          have hz2 := blk_below (blk_new (w.alloc (.cells #[.int .i64 x.f0, .string x.f1, .int .i64 x.f2, .slice A3 x.f3.length c3, .slice A4 x.f4.length c4] 29)) (.cells #[.int .i64 y.f0, .string y.f1, .int .i64 y.f2, .slice B3 y.f3.length d3, .slice B4 y.f4.length d4] 29)) k1
          rw [show (w.alloc (.cells #[.int .i64 x.f0, .string x.f1, .int .i64 x.f2, .slice A3 x.f3.length c3, .slice A4 x.f4.length c4] 29)).heap.size = w.heap.size + 1 from by simp] at hz2
          obtain ⟨_, _, _, _, q4⟩ := fm_cells hz
          obtain ⟨_, _, _, _, r4⟩ := fm_cells hz2
          have K1 := Lib.hid (below_step HB.out k1)
          clear hz hz2 k1
          by_cases e4 : x.f3 = y.f3
          · have E4 := Lib.hid e4
            rw [decide_eq_true e4]
            clear e4
            go_wp2_with fail
            refine (HK.out _ K1.out).mono ?_
            rintro e w2 ⟨rfl, k2⟩
            cases e5 : eqB x.f4 y.f4 with
            | true =>
              have E5 := Lib.hid (eqB_iff.1 e5)
              clear e5
              go_wp2_with fail
              go_ret
              exact ⟨ret_b (eqB_yes (HX.out E1.out E2.out E3.out E4.out E5.out)), below_step K1.out k2⟩
            | false =>
              have E5 := Lib.hid e5
              clear e5
              go_wp2_with fail
              go_ret
              refine ⟨ret_b (eqB_no (fun h => ?_)), below_step K1.out k2⟩
              have := E5.out
              rw [h, eqB_self] at this
              cases this
          · have E4 := Lib.hid e4
            rw [decide_eq_false e4]
            clear e4
            go_wp2_with fail
            go_ret
            exact ⟨ret_b (eqB_no (fun h => E4.out (by rw [h]))), K1.out⟩
        · have t3 : (x.f2 == y.f2) = false := by simpa using e3
          have t3' : (x.f2 != y.f2) = true := by simpa using e3
          have E3 := Lib.hid e3
          clear e3 ih hx hy hb1 hb2
          go_enter Try.func18, Try.ntmps18
          go_wp2_with fail
          go_ret
          exact ⟨ret_b (eqB_no (fun h => E3.out (by rw [h]))), HB.out⟩
      · have t2 : (x.f1.toList == y.f1.toList) = false := by rw [beq_eq_false_iff_ne]; exact fun h => e2 (toList_inj h)
        have t2' : (x.f1.toList != y.f1.toList) = true := by rw [bne_iff_ne]; exact fun h => e2 (toList_inj h)
        have E2 := Lib.hid e2
        clear e2 ih hx hy hb1 hb2
        go_enter Try.func18, Try.ntmps18
        go_wp2_with fail
        go_ret
        exact ⟨ret_b (eqB_no (fun h => E2.out (by rw [h]))), HB.out⟩
    · have t1 : (x.f0 == y.f0) = false := by simpa using e1
      have t1' : (x.f0 != y.f0) = true := by simpa using e1
      have E1 := Lib.hid e1
      clear e1 ih hx hy hb1 hb2
      go_enter Try.func18, Try.ntmps18
      go_wp2_with fail
      go_ret
      exact ⟨ret_b (eqB_no (fun h => E1.out (by rw [h]))), HB.out⟩
end Go.Proofs.Ytnaefjilcabkoaa
end
section
namespace Go.Proofs.Ytnaefjilcabkoaa
open Go.RowKit Go.Proofs.YtnaefjilcabkoaaW.PrintWords Go.Proofs.YtnaefjilcabkoaaW.PrintLast Go.Proofs.YtnaefjilcabkoaaW.PrintMore
set_option linter.unusedVariables false
set_option linter.unusedSimpArgs false
/-- Only the blocks of S, and new ones, may have changed. -/
structure Mk (S : List Nat) (w w' : World) : Prop where
  b0 : Below 0 w w'
  keep : ∀ b, b < w.heap.size → b ∉ S → w'.heap[b]? = w.heap[b]?
theorem Mk.refl (S : List Nat) (w : World) : Mk S w w := ⟨Below.refl _ _, fun _ _ _ => rfl⟩
theorem Mk.trans {S : List Nat} {a b c : World} (h : Mk S a b) (k : Mk S b c) : Mk S a c :=
  ⟨h.b0.trans k.b0, fun j hj hs => (k.keep j (Nat.lt_of_lt_of_le hj h.b0.size) hs).trans (h.keep j hj hs)⟩
theorem Mk.more {S T : List Nat} {a b : World} (h : Mk S a b) (hs : ∀ j, j ∈ S → j ∈ T) : Mk T a b := ⟨h.b0, fun j hj ht => h.keep j hj (fun q => ht (hs j q))⟩
theorem Mk.ofBelow {S : List Nat} {w w' : World} (h : Below w.heap.size w w') : Mk S w w' := ⟨h.mono (Nat.zero_le _), fun b hb _ => h.block b hb⟩
theorem Mk.set {S : List Nat} (w : World) {g : Nat} (hg : g ∈ S) (i : Nat) (u : Value) : Mk S w (w.setCell ⟨g, i, none⟩ u) :=
  ⟨(Below.refl 0 w).setCell (Nat.zero_le _) u, fun b _ hb => Below.heap_setCell _ _ _ _ (fun h => hb (h ▸ hg))⟩
theorem Mk.below {S : List Nat} {w w' : World} {B : Nat} (h : Mk S w w') (hB : B ≤ w.heap.size) (hs : ∀ b, b ∈ S → B ≤ b) : Below B w w' :=
  ⟨h.b0.os, h.b0.tape, h.b0.output, h.b0.size, fun k hk => h.keep k (Nat.lt_of_lt_of_le hk hB) (fun q => Nat.lt_irrefl _ (Nat.lt_of_lt_of_le hk (hs k q)))⟩
theorem Mk.tree {S fp : List Nat} {w w' : World} {x : Fm} {v3 v4 : Value} (h : Mk S w w') (ht : TrF w x v3 v4 fp) (hs : ∀ b, b ∈ fp → b ∉ S) : TrF w' x v3 v4 fp :=
  ht.move x (fun b hb => h.keep b (ht.lt x b hb) (hs b hb))
/-- The numbers k, k + 1, ..: n of them. -/
def markI (n : Nat) (k : Int) : List Int := (List.range n).map (fun i : Nat => k + (i : Int))
theorem markI_length (n : Nat) (k : Int) : (markI n k).length = n := by simp [markI]
set_option maxHeartbeats 1000000 in
theorem markIntS_any (xs : List Int) (v : Value) (k : Int) (w : World) (h : kI.R 3 w 0 (fun _ => True) v xs) (hk0 : 0 ≤ k) (hk1 : k + xs.length ≤ 1000000000) :
    Calls Try.prog 37 #[v, .int .i64 k] w (fun e w' => e = .returned (.int .i64 (k + xs.length)) ∧ kI.R 3 w' 0 (fun _ => True) v (markI xs.length k) ∧ Mk (obs v) w w') := by
  obtain ⟨A, c, rfl, hcap, hC0⟩ := own_C (Kd.own_of_R h)
  have hmax := hC0.2.1
  have HA := Lib.hid h
  clear h hC0
  go_enter Try.func37, Try.ntmps37
  go_wp2_with fail
  go_loopg [1, 5] xs.length (fun kq v1 v5 w' => ∃ i : Nat, i ≤ xs.length ∧ xs.length - i ≤ kq ∧ v5 = .int .i64 i ∧ v1 = .int .i64 (k + (i : Int)) ∧ Aside0 (kI.R 3 w' 0 (fun _ => True) (.slice A xs.length c) (markI i k ++ xs.drop i)) ∧ Aside0 (Mk (obs (.slice A xs.length c)) w w'))
  case atStart => exact ⟨0, Nat.zero_le _, by omega, rfl, by simp, ⟨by simpa [markI] using HA.out⟩, ⟨Mk.refl _ _⟩⟩
  case round =>
    obtain ⟨i, hi, hg, rfl, rfl, HO, HW⟩ := hrel
    by_cases hlt : i < xs.length
    · have hlen : (markI i k ++ xs.drop i).length = xs.length := by simp [markI]; omega
      obtain ⟨g, cap, e, hg1, _, hx, hf, _, HP⟩ := own_at HO.out i (by omega)
      rw [hlen] at e HP
      have hA : A = some ⟨g, 0, none⟩ := by cases e; rfl
      have hcc : c = cap := by cases e; rfl
      subst hA
      subst hcc
      have HP := Lib.hid (HP (k + (i : Int)))
      have HM := Lib.hid (Mk.set wr (S := obs (.slice (some ⟨g, 0, none⟩) xs.length c)) (g := g) (by simp [obs, Value.ownBlock]) i (.int .i64 (k + (i : Int))))
      clear e
      go_wp2_with fail
      go_roundg (xs.length - (i + 1))
      case measure => omega
      case rel =>
        refine ⟨i + 1, by omega, Nat.le_refl _, by go_num, by go_num, ⟨?_⟩, ⟨HW.out.trans HM.out⟩⟩
        have := HP.out
        rwa [show (markI i k ++ xs.drop i).set i (k + (i : Int)) = markI (i + 1) k ++ xs.drop (i + 1) from ?_] at this
        have e1 : (List.drop i xs).set 0 (k + (i : Int)) = (k + (i : Int)) :: List.drop (i + 1) xs := by rw [List.drop_eq_getElem_cons hlt]; rfl
        rw [List.set_append_right _ _ (by simp [markI]), markI_length, Nat.sub_self, e1]
        simp [markI, List.range_succ]
    · obtain rfl : i = xs.length := by omega
      go_wp2_with fail
      go_ret
      refine ⟨rfl, ?_, HW.out⟩
      have := HO.out
      rwa [List.drop_length, List.append_nil] at this
theorem heldIntS_any (n : Nat) (A : Option Addr) (c : Nat) (k : Int) (w : World) (hr : kI.C w A n (markI n k)) (hc : n ≤ c) (hk0 : 0 ≤ k) (hk1 : k + n ≤ 1000000000) :
    Calls Try.prog 38 #[.slice A n c, .int .i64 k] w (Ret w (.int .i64 (k + n))) := by
  have hmax := hr.2.1
  go_enter Try.func38, Try.ntmps38
  go_wp2_with fail
  go_loopg [1, 5] n (fun kq v1 v5 w' => ∃ i : Nat, i ≤ n ∧ n - i ≤ kq ∧ v5 = .int .i64 i ∧ v1 = .int .i64 (k + (i : Int)) ∧ Aside0 (Below w.heap.size w w'))
  case atStart => exact ⟨0, Nat.zero_le _, by omega, rfl, by simp, ⟨Below.refl _ _⟩⟩
  case round =>
    obtain ⟨i, hi, hg, rfl, rfl, HW⟩ := hrel
    by_cases hlt : i < n
    · obtain ⟨ad, e, hcell⟩ := int_at (Kd.C_below hr HW.out) i (by rw [markI_length]; exact hlt)
      subst e
      rw [show (markI n k)[i]'(by rw [markI_length]; exact hlt) = k + (i : Int) from by simp [markI]] at hcell
      have ht : ((k + (i : Int)) != (k + (i : Int))) = false := by simp
      go_wp2_with fail
      go_roundg (n - (i + 1))
      case measure => omega
      case rel => exact ⟨i + 1, by omega, Nat.le_refl _, by go_num, by go_num, ⟨HW.out⟩⟩
    · obtain rfl : i = n := by omega
      go_wp2_with fail
      go_ret
      exact ⟨rfl, HW.out⟩
def dg (n : Nat) (acc : ByteArray) : ByteArray := if h : n = 0 then acc else dg (n / 10) (⟨#[48 + UInt8.ofNat (n % 10)]⟩ ++ acc)
termination_by n
decreasing_by omega
def mt (k : Int) : ByteArray := if k ≤ 0 then ⟨#[109, 48]⟩ else ⟨#[109]⟩ ++ dg k.toNat ⟨#[]⟩
set_option maxRecDepth 100000 in
set_option maxHeartbeats 1000000 in
theorem markText_any (k : Nat) (w : World) (hk0 : 1 ≤ k) (hk1 : k ≤ 1000000000) :
    Calls Try.prog 65 #[.int .i64 k] w (Ret w (.string (mt k))) := by
  have t0 : decide ((k : Int) ≤ 0) = false := decide_eq_false (by omega)
  have t0' : decide (k = 0) = false := decide_eq_false (by omega)
  go_enter Try.func65, Try.ntmps65
  go_wp2_with fail
  go_loopg [0, 3] k (fun kq v0 v3 w' => ∃ (n : Nat) (acc : ByteArray), acc.size + n ≤ k ∧ n ≤ kq ∧ v0 = .int .i64 n ∧ v3 = .string acc ∧ Aside0 (dg n acc = dg k ⟨#[]⟩) ∧ Aside0 (Below w.heap.size w w'))
  case atStart => exact ⟨k, _, (by have : (ByteArray.mk #[]).size = 0 := rfl; omega), by omega, rfl, rfl, ⟨rfl⟩, ⟨Below.refl _ _⟩⟩
  case round =>
    obtain ⟨n, acc, hn, hg, rfl, rfl, HD, HW⟩ := hrel
    have ha : acc.size ≤ 1000000000 := by omega
    by_cases hz : n = 0
    · have t1 : decide ((n : Int) > 0) = false := decide_eq_false (by omega)
      have t2 : decide (0 < n) = false := decide_eq_false (by omega)
      have HZ := Lib.hid hz
      clear hz
      go_wp2_with fail
      go_ret
      refine ⟨?_, HW.out⟩
      have h1 := HD.out
      rw [HZ.out, dg, dif_pos rfl] at h1
      rw [h1, mt, if_neg (by omega), Int.toNat_natCast]
      rfl
    · have t1 : decide ((n : Int) > 0) = true := decide_eq_true (by omega)
      have t2 : decide (0 < n) = true := decide_eq_true (by omega)
      have hd : (convert 105 9 (.slice (some ⟨wr.heap.size, 0, none⟩) 1 1)).run Try.prog (wr.alloc (.cells #[.int .u8 (48 + (n : Int) % 10)] 5)) = .ok (.string ⟨#[UInt8.ofNat (48 + n % 10)]⟩) (wr.alloc (.cells #[.int .u8 (48 + (n : Int) % 10)] 5)) :=
        run_convert_bytes_back (P := Try.prog) _ 105 9 5 ⟨wr.heap.size, 0, none⟩ 1 [UInt8.ofNat (48 + n % 10)] Try.underlying105 Try.underlying5 Try.underlying9 (by
          intro j hj
          obtain rfl : j = 0 := by simpa using hj
          have h8 : (UInt8.ofNat (48 + n % 10)).toNat = 48 + n % 10 := by rw [UInt8.toNat_ofNat']; omega
          show _ = some (Value.int .u8 ((UInt8.ofNat (48 + n % 10)).toNat : Int))
          rw [h8]
          exact ((blk_cell (blk_new wr (.cells #[.int .u8 (48 + (n : Int) % 10)] 5)) 0).trans (by simp)))
      go_wp2_with fail
      go_roundg (n / 10)
      case measure => omega
      case rel =>
        refine ⟨n / 10, _, ?_, Nat.le_refl _, by go_num, rfl, ⟨?_⟩, ⟨HW.out.alloc HW.out.size _⟩⟩
        · have : (⟨#[48 + UInt8.ofNat (n % 10)]⟩ ++ acc : ByteArray).size = 1 + acc.size := by rw [ByteArray.size_append]; rfl
          omega
        · have h1 := HD.out
          rw [dg, dif_neg hz] at h1
          exact h1
end Go.Proofs.Ytnaefjilcabkoaa
end
section
namespace Go.Proofs.Ytnaefjilcabkoaa
open Go.RowKit Go.Proofs.YtnaefjilcabkoaaW.PrintWords Go.Proofs.YtnaefjilcabkoaaW.PrintLast Go.Proofs.YtnaefjilcabkoaaW.PrintMore
set_option linter.unusedVariables false
set_option linter.unusedSimpArgs false
mutual
def Fm.cnt : Fm → Nat
  | ⟨_, _, _, sc, kids⟩ => sc.length + cntL kids
def cntL : List Fm → Nat
  | [] => 0
  | k :: ks => 3 + k.cnt + cntL ks
end
mutual
def Fm.mark : Fm → Int → Fm
  | ⟨a, b, c, sc, kids⟩, k => ⟨a, b, c, markI sc.length k, markL kids (k + sc.length)⟩
def markL : List Fm → Int → List Fm
  | [], _ => []
  | x :: xs, k => ⟨k, mt (k + 1), k + 2, (x.mark (k + 3)).f3, (x.mark (k + 3)).f4⟩ :: markL xs (k + 3 + x.cnt)
end
theorem Fm.cnt_eq (x : Fm) : x.cnt = x.f3.length + cntL x.f4 := by cases x; rfl
theorem Fm.mark_eq (x : Fm) (k : Int) : x.mark k = ⟨x.f0, x.f1, x.f2, markI x.f3.length k, markL x.f4 (k + x.f3.length)⟩ := by cases x; rfl
/-- The element of a row, marked from k on. -/
def Fm.mark3 (x : Fm) (k : Int) : Fm := ⟨k, mt (k + 1), k + 2, markI x.f3.length (k + 3), markL x.f4 (k + 3 + x.f3.length)⟩
theorem markL_cons (x : Fm) (xs : List Fm) (k : Int) : markL (x :: xs) k = x.mark3 k :: markL xs (k + 3 + x.cnt) := by
  rw [markL, Fm.mark_eq]
  rfl
theorem cntL_cons (x : Fm) (xs : List Fm) : cntL (x :: xs) = 3 + x.cnt + cntL xs := rfl
theorem cntL_append (a b : List Fm) : cntL (a ++ b) = cntL a + cntL b := by
  induction a with
  | nil => simp [cntL]
  | cons x a ih => rw [List.cons_append, cntL_cons, cntL_cons, ih]; omega
theorem markL_append (a b : List Fm) : ∀ k : Int, markL (a ++ b) k = markL a k ++ markL b (k + cntL a) := by
  induction a with
  | nil => intro k; simp [markL, cntL]
  | cons x a ih =>
    intro k
    rw [List.cons_append, markL_cons, markL_cons, ih, cntL_cons, List.cons_append]
    congr 3
    omega
theorem markL_length : ∀ (l : List Fm) (k : Int), (markL l k).length = l.length := by
  intro l
  induction l with
  | nil => intro k; rfl
  | cons x l ih => intro k; rw [markL_cons, List.length_cons, List.length_cons, ih]
theorem cntL_take (l : List Fm) (i : Nat) (h : i < l.length) : cntL (l.take (i + 1)) = cntL (l.take i) + (3 + l[i].cnt) := by
  rw [List.take_succ_eq_append_getElem h, cntL_append, cntL_cons]
  simp [cntL]
theorem markL_take (l : List Fm) (i : Nat) (h : i < l.length) (k : Int) : markL (l.take (i + 1)) k = markL (l.take i) k ++ [l[i].mark3 (k + cntL (l.take i))] := by
  rw [List.take_succ_eq_append_getElem h, markL_append, markL_cons]
  simp [markL]
theorem cntL_take_le (l : List Fm) (i : Nat) : cntL (l.take i) ≤ cntL l := by
  have h := cntL_append (l.take i) (l.drop i)
  rw [List.take_append_drop] at h
  omega
theorem Mk.cell {S : List Nat} {w w' : World} (h : Mk S w w') {g j : Nat} {v : Value} (hg : g ∉ S) (hc : w.cell? ⟨g, j, none⟩ = some v) : w'.cell? ⟨g, j, none⟩ = some v := by
  have hlt := World.block_lt_of_cell? w _ hc
  rw [World.cell?_of_block (w := w) (h.keep g hlt hg)]
  exact hc
theorem Mk.own {S : List Nat} {w w' : World} (h : Mk S w w') {e sz n : Nat} {v : Value} {inner : List Value} (ho : w.ownsRow 0 e sz v n inner) (hs : ∀ b, v.ownBlock = some b → b ∉ S) (hlt : ∀ b, v.ownBlock = some b → b < w.heap.size) : w'.ownsRow 0 e sz v n inner :=
  own_move ho (fun b hb => h.keep b (hlt b hb) (hs b hb))
theorem row_at {w : World} {e g n cap i : Nat} {inner rest : List Value} {a0 a1 a2 a3 a4 : Value} (h : w.ownsRow 0 e 5 (.slice (some ⟨g, 0, none⟩) n cap) n (inner ++ ([a0, a1, a2, a3, a4] ++ rest))) (hl : inner.length = i * 5) :
    (∀ b0, (w.setCell ⟨g, i * 5, none⟩ b0).ownsRow 0 e 5 (.slice (some ⟨g, 0, none⟩) n cap) n (inner ++ ([b0, a1, a2, a3, a4] ++ rest))) ∧
    (∀ b1, (w.setCell ⟨g, i * 5 + 1, none⟩ b1).ownsRow 0 e 5 (.slice (some ⟨g, 0, none⟩) n cap) n (inner ++ ([a0, b1, a2, a3, a4] ++ rest))) ∧
    (∀ b2, (w.setCell ⟨g, i * 5 + 2, none⟩ b2).ownsRow 0 e 5 (.slice (some ⟨g, 0, none⟩) n cap) n (inner ++ ([a0, a1, b2, a3, a4] ++ rest))) := by
  refine ⟨fun b0 => ?_, fun b1 => ?_, fun b2 => ?_⟩
  · have s0 := (World.ownsRow.stored h (i * 5) b0).1
    rwa [show (inner ++ ([a0, a1, a2, a3, a4] ++ rest)).set (i * 5) b0 = inner ++ ([b0, a1, a2, a3, a4] ++ rest) from by rw [← hl]; simp [List.set_append]] at s0
  · have s0 := (World.ownsRow.stored h (i * 5 + 1) b1).1
    rwa [show (inner ++ ([a0, a1, a2, a3, a4] ++ rest)).set (i * 5 + 1) b1 = inner ++ ([a0, b1, a2, a3, a4] ++ rest) from by rw [← hl]; simp [List.set_append]] at s0
  · have s0 := (World.ownsRow.stored h (i * 5 + 2) b2).1
    rwa [show (inner ++ ([a0, a1, a2, a3, a4] ++ rest)).set (i * 5 + 2) b2 = inner ++ ([a0, a1, b2, a3, a4] ++ rest) from by rw [← hl]; simp [List.set_append]] at s0
/-- markFormS on the row v of the forms ks, from k on. -/
def MarkPost (ks : List Fm) (v : Value) (fp : List Nat) (k : Int) (w : World) (e : Ending) (w' : World) : Prop :=
  e = .returned (.int .i64 (k + cntL ks)) ∧ (∃ inner, w'.ownsRow 0 29 5 v ks.length inner ∧ TrL w' (markL ks k) inner fp) ∧ Mk (obs v ++ fp) w w'
def MarkL (ks : List Fm) : Prop := ∀ (v : Value) (inner : List Value) (fp : List Nat) (k : Int) (w : World), w.ownsRow 0 29 5 v ks.length inner → TrL w ks inner fp → (obs v ++ fp).Nodup → 1 ≤ k → k + cntL ks ≤ 1000000000 →
    Calls Try.prog 49 #[v, .int .i64 k] w (MarkPost ks v fp k w)
theorem nd_parts {a b c d e f : List Nat} (h : (a ++ (b ++ ((c ++ (d ++ e)) ++ f))).Nodup) : (∀ x, x ∈ a → x ∉ b ∧ x ∉ c ∧ x ∉ d ++ e ∧ x ∉ f) ∧ (∀ x, x ∈ c → x ∉ a ∧ x ∉ b ∧ x ∉ d ++ e ∧ x ∉ f) ∧ (∀ x, x ∈ d ++ e → x ∉ a ∧ x ∉ b ∧ x ∉ c ∧ x ∉ f) ∧ (d ++ e).Nodup := by
  simp only [List.nodup_append, List.mem_append] at h
  grind
theorem markTextZ (k : Int) (w : World) (hk0 : 1 ≤ k) (hk1 : k ≤ 1000000000) : Calls Try.prog 65 #[.int .i64 k] w (Ret w (.string (mt k))) := by
  obtain ⟨n, rfl⟩ := Int.eq_ofNat_of_zero_le (show 0 ≤ k by omega)
  exact markText_any n w (by omega) (by omega)
set_option maxHeartbeats 4000000 in
set_option maxRecDepth 100000 in
theorem markFormS_of (ks : List Fm) (hks : ∀ x, x ∈ ks → MarkL x.f4) : MarkL ks := by
  intro v inner fp k w ho ht hnd hk0 hk1
  obtain ⟨A, c, rfl, hcap, hC0⟩ := ht.C ho
  have hmax := hC0.2.1
  have HI := Lib.hid (And.intro ho ht)
  have HK := Lib.hid hks
  have HND := Lib.hid hnd
  clear ho ht hks hC0 hnd
  go_enter Try.func49, Try.ntmps49
  go_wp2_with fail
  go_loopg [1, 5] ks.length (fun kq v1 v5 w' => ∃ i : Nat, i ≤ ks.length ∧ ks.length - i ≤ kq ∧ v5 = .int .i64 i ∧ v1 = .int .i64 (k + (cntL (ks.take i) : Int)) ∧ Aside0 (∃ ia ib fa fb, w'.ownsRow 0 29 5 (.slice A ks.length c) ks.length (ia ++ ib) ∧ TrL w' (markL (ks.take i) k) ia fa ∧ TrL w' (ks.drop i) ib fb ∧ fp = fa ++ fb) ∧ Aside0 (Mk (obs (.slice A ks.length c) ++ fp) w w'))
  case atStart => exact ⟨0, Nat.zero_le _, by omega, rfl, by simp [cntL], ⟨[], inner, [], fp, HI.out.1, TrL.nil, HI.out.2, rfl⟩, ⟨Mk.refl _ _⟩⟩
  case round =>
    obtain ⟨i, hi, hg, rfl, rfl, HO, HW⟩ := hrel
    by_cases hlt : i < ks.length
    · obtain ⟨ia, ib, fa, fb, ho, ha, hb, hfp⟩ := HO.out
      rw [List.drop_eq_getElem_cons hlt] at hb
      obtain ⟨v3, v4, rest, fk, fs, rfl, rfl, hkid, hrest⟩ := hb.cons_inv
      obtain ⟨inner4, fk4, rfl, h3, h4, hk4⟩ := hkid.open
      obtain ⟨C3, j3, rfl, hj3, _⟩ := own_C h3
      obtain ⟨C4, j4, rfl, hj4, _⟩ := hk4.C h4
      obtain ⟨g, cap, e, hg0, hglt⟩ := ho.form (by omega)
      have hA : A = some ⟨g, 0, none⟩ := by cases e; rfl
      have hcc : c = cap := by cases e; rfl
      subst hA
      subst hcc
      have hl := ha.len
      rw [markL_length, List.length_take, Nat.min_eq_left hi] at hl
      have hnd := HND.out
      rw [hfp] at hnd
      obtain ⟨n1, n2, n3, n4⟩ := nd_parts hnd
      have hct := cntL_take ks i hlt
      have hcle := cntL_take_le ks (i + 1)
      have hce := Fm.cnt_eq ks[i]
      obtain ⟨⟨q0, q1, q2, q3, q4⟩, hfz, _⟩ := row_put ho hl
      have z0 := hfz (i * 5)
      have z1 := hfz (i * 5 + 1)
      have z2 := hfz (i * 5 + 2)
      have MT := Lib.hid (markTextZ (k + (cntL (ks.take i) : Int) + 1) (wr.setCell ⟨g, i * 5, none⟩ (.int .i64 (k + (cntL (ks.take i) : Int)))) (by omega) (by omega))
      clear e hfz
      go_wp2_with fail
      refine MT.out.mono ?_
      rintro e w2 ⟨rfl, hb2⟩
      have hgS : g ∈ obs (.slice (some ⟨g, 0, none⟩) ks.length c) ++ fp := by simp [obs, Value.ownBlock]
      have ho2 := own_move (w1 := w2) ((row_at ho hl).1 (.int .i64 (k + (cntL (ks.take i) : Int)))) (fun b hb => by
        have : g = b := by simpa [Value.ownBlock] using hb
        subst this
        exact hb2.block g (by simpa using hglt))
      have m2 : Mk [g] wr w2 := (Mk.set wr (by simp) _ _).trans (Mk.ofBelow hb2)
      have ho3 := (row_at ho2 hl).2.1 (.string (mt (k + (cntL (ks.take i) : Int) + 1)))
      have ho4 := (row_at ho3 hl).2.2 (.int .i64 (k + (cntL (ks.take i) : Int) + 1 + 1))
      have m4 : Mk [g] wr ((w2.setCell ⟨g, i * 5 + 1, none⟩ (.string (mt (k + (cntL (ks.take i) : Int) + 1)))).setCell ⟨g, i * 5 + 2, none⟩ (.int .i64 (k + (cntL (ks.take i) : Int) + 1 + 1))) := (m2.trans (Mk.set _ (by simp) _ _)).trans (Mk.set _ (by simp) _ _)
      have hf1 := World.ownsRow.frozenAt ho2 (i * 5 + 1)
      have hf2 := World.ownsRow.frozenAt ho3 (i * 5 + 2)
      obtain ⟨⟨_, r1, r2, r3, r4⟩, _, _⟩ := row_put ho2 hl
      obtain ⟨⟨_, _, s2, s3, s4⟩, _, _⟩ := row_put ho3 hl
      obtain ⟨⟨_, _, _, t3, t4⟩, _, _⟩ := row_put ho4 hl
      clear q0 q1 q2 q3 q4 z0 z1 z2 MT hb2
      have HO4 := Lib.hid ho4
      have M4 := Lib.hid m4
      clear ho ho2 ho3 ho4 m2 m4
      go_wp2_with fail
      have hgm : g ∈ obs (.slice (some ⟨g, 0, none⟩) ks.length c) := by simp [obs, Value.ownBlock]
      have n1g := n1 g hgm
      have hklt := hkid.lt _
      have h3' := M4.out.own h3 (fun b hb => by
          have hb' : b ∈ obs (Value.slice C3 ks[i].f3.length j3) := obs_mem.2 hb
          intro h
          have : b = g := by simpa using h
          subst this
          exact n1g.2.1 hb') (fun b hb => hklt b (List.mem_append_left _ (obs_mem.2 hb)))
      refine (markIntS_any ks[i].f3 (.slice C3 ks[i].f3.length j3) _ _ (Kd.R_of_own h3' (fun _ _ => trivial)) (by omega) (by omega)).mono ?_
      rintro e w5 ⟨rfl, r5, m5⟩
      have m5' : Mk ([g] ++ obs (.slice C3 ks[i].f3.length j3)) wr w5 := (M4.out.more (fun j hj => List.mem_append_left _ hj)).trans (m5.more (fun j hj => List.mem_append_right _ hj))
      have u4 := m5.cell n1g.2.1 t4
      have hdis : ∀ b, b ∈ obs (Value.slice C4 ks[i].f4.length j4) ++ fk4 → b ∉ [g] ++ obs (.slice C3 ks[i].f3.length j3) := by
        intro b hb h
        have q := n3 b hb
        rcases List.mem_append.1 h with h | h
        · have : b = g := by simpa using h
          subst this
          exact q.1 hgm
        · exact q.2.2.1 h
      have h4' := m5'.own h4 (fun b hb => hdis b (List.mem_append_left _ (obs_mem.2 hb))) (fun b hb => hklt b (List.mem_append_right _ (List.mem_append_left _ (obs_mem.2 hb))))
      have hk4' := hk4.move _ (fun b hb => m5'.keep b (hklt b (List.mem_append_right _ (List.mem_append_right _ hb))) (hdis b (List.mem_append_right _ hb)))
      have MK := Lib.hid (HK.out ks[i] (List.getElem_mem hlt) _ _ _ (k + (cntL (ks.take i) : Int) + 1 + 1 + 1 + ks[i].f3.length) w5 h4' hk4' n4 (by omega) (by omega))
      clear r1 r2 r3 r4 s2 s3 s4 t3 t4 hf1 hf2
      go_wp2_with fail
      refine MK.out.mono ?_
      rintro e w6 ⟨rfl, ⟨inner', h6, t6⟩, m6⟩
      have mA : Mk (([g] ++ obs (.slice C3 ks[i].f3.length j3)) ++ (obs (.slice C4 ks[i].f4.length j4) ++ fk4)) wr w6 := (m5'.more (fun j hj => List.mem_append_left _ hj)).trans (m6.more (fun j hj => List.mem_append_right _ hj))
      have hgo : ∀ b, (Value.slice (some ⟨g, 0, none⟩) ks.length c).ownBlock = some b → b = g := fun b hb => by
        have : g = b := by simpa [Value.ownBlock] using hb
        exact this.symm
      have hsz5 : wr.heap.size ≤ w5.heap.size := m5'.b0.size
      have ho6 := m6.own (m5.own HO4.out (fun b hb => by rw [hgo b hb]; exact n1g.2.1) (fun b hb => by rw [hgo b hb]; exact Nat.lt_of_lt_of_le hglt M4.out.b0.size)) (fun b hb => by rw [hgo b hb]; exact n1g.2.2.1) (fun b hb => by rw [hgo b hb]; omega)
      have hd3 : ∀ b, b ∈ obs (Value.slice C3 ks[i].f3.length j3) → b ∉ obs (Value.slice C4 ks[i].f4.length j4) ++ fk4 := fun b hb => (n2 b hb).2.2.1
      have o5 := Kd.own_of_R r5
      rw [markI_length] at o5
      have o6 := m6.own o5 (fun b hb => hd3 b (obs_mem.2 hb)) (fun b hb => Nat.lt_of_lt_of_le (hklt b (List.mem_append_left _ (obs_mem.2 hb))) hsz5)
      have hfar : ∀ b, (b ∈ fa ∨ b ∈ fs) → b ∉ ([g] ++ obs (.slice C3 ks[i].f3.length j3)) ++ (obs (.slice C4 ks[i].f4.length j4) ++ fk4) := by
        intro b hb h
        rcases List.mem_append.1 h with h | h
        · rcases List.mem_append.1 h with h | h
          · have : b = g := by simpa using h
            subst this
            rcases hb with hb | hb
            · exact n1g.1 hb
            · exact n1g.2.2.2 hb
          · have q := n2 b h
            rcases hb with hb | hb
            · exact q.2.1 hb
            · exact q.2.2.2 hb
        · have q := n3 b h
          rcases hb with hb | hb
          · exact q.2.1 hb
          · exact q.2.2.2 hb
      have ha6 := ha.move _ (fun b hb => mA.keep b (ha.lt _ b hb) (hfar b (.inl hb)))
      have hr6 := hrest.move _ (fun b hb => mA.keep b (hrest.lt _ b hb) (hfar b (.inr hb)))
      have hK3 : k + (cntL (ks.take i) : Int) + 1 + 1 + 1 = k + (cntL (ks.take i) : Int) + 3 := by omega
      rw [hK3] at o6 t6
      have hkid6 : TrF w6 (ks[i].mark3 (k + (cntL (ks.take i) : Int))) (.slice C3 ks[i].f3.length j3) (.slice C4 ks[i].f4.length j4) (obs (.slice C3 ks[i].f3.length j3) ++ (obs (.slice C4 ks[i].f4.length j4) ++ fk4)) :=
        TrF.mk (ks[i].mark3 (k + (cntL (ks.take i) : Int))) _ _ inner' fk4 (by show w6.ownsRow 0 3 1 _ (markI ks[i].f3.length _).length _; rw [markI_length]; exact o6) (by show w6.ownsRow 0 29 5 _ (markL ks[i].f4 _).length _; rw [markL_length]; exact h6) t6
      have HF : Hid (∃ ia ib fa fb, w6.ownsRow 0 29 5 (.slice (some ⟨g, 0, none⟩) ks.length c) ks.length (ia ++ ib) ∧ TrL w6 (markL (ks.take (i + 1)) k) ia fa ∧ TrL w6 (ks.drop (i + 1)) ib fb ∧ fp = fa ++ fb) := by
        refine ⟨ia ++ [.int .i64 (k + (cntL (ks.take i) : Int)), .string (mt (k + (cntL (ks.take i) : Int) + 1)), .int .i64 (k + (cntL (ks.take i) : Int) + 2), .slice C3 ks[i].f3.length j3, .slice C4 ks[i].f4.length j4], rest, fa ++ (obs (.slice C3 ks[i].f3.length j3) ++ (obs (.slice C4 ks[i].f4.length j4) ++ fk4)), fs, ?_, ?_, hr6, ?_⟩
        · rw [List.append_assoc]
          have := ho6
          rwa [show k + (cntL (ks.take i) : Int) + 1 + 1 = k + (cntL (ks.take i) : Int) + 2 from by omega] at this
        · rw [markL_take ks i hlt]
          exact ha6.append (TrL.one hkid6)
        · rw [hfp]
          simp only [List.append_assoc]
      have HM : Hid (Mk (obs (.slice (some ⟨g, 0, none⟩) ks.length c) ++ fp) w w6) := HW.out.trans (mA.more (fun j hj => by
        rw [hfp]
        simp only [List.mem_append] at hj ⊢
        rcases hj with (h | h) | h
        · left; have : j = g := by simpa using h
          rw [this]; exact hgm
        · right; right; left; left; exact h
        · right; right; left; right; exact h))
      have HC := Lib.hid (show cntL (ks.take (i + 1)) = cntL (ks.take i) + (3 + (ks[i].f3.length + cntL ks[i].f4)) from by rw [hct, hce])
      clear n1 n2 n3 n4 n1g hklt h3 h4 h3' h4' hk4 hk4' m5 m5' m6 mA ho6 hd3 o5 o6 hfar ha6 hr6 hkid6 h6 t6 r5 u4 hdis ha hrest hkid hnd hfp hl hgS MK HO4 M4 HO hb hsz5 hgo
      go_wp2_with fail
      go_roundg (ks.length - (i + 1))
      case measure => omega
      case rel =>
        have hc := HC.out
        exact ⟨i + 1, by omega, Nat.le_refl _, by go_num, by rw [hc]; go_num, ⟨HF.out⟩, ⟨HM.out⟩⟩
    · obtain rfl : i = ks.length := by omega
      have HF : Hid (∃ inner, wr.ownsRow 0 29 5 (.slice A ks.length c) ks.length inner ∧ TrL wr (markL ks k) inner fp) := by
        obtain ⟨ia, ib, fa, fb, ho, ha, hb, hfp⟩ := HO.out
        rw [List.drop_length] at hb
        obtain ⟨rfl, rfl⟩ := hb.nil_inv
        rw [List.take_length] at ha
        exact ⟨ia, by simpa using ho, by rw [hfp, List.append_nil]; exact ha⟩
      have HT : Hid (ks.take ks.length = ks) := List.take_length
      clear HO
      go_wp2_with fail
      go_ret
      exact ⟨ret_i (by rw [HT.out]), HF.out, HW.out⟩
theorem markL_kids (x : Fm) : MarkL x.f4 := by
  induction x using Fm.ind with
  | h x ih => exact markFormS_of x.f4 ih
theorem markFormS_any (ks : List Fm) : MarkL ks := markFormS_of ks (fun x _ => markL_kids x)
/-- markForm on a form in own memory. -/
def MarkFPost (x : Fm) (v3 v4 : Value) (fp : List Nat) (k : Int) (w : World) (e : Ending) (w' : World) : Prop :=
  e = .returned (.int .i64 (k + x.cnt)) ∧ TrF w' (x.mark k) v3 v4 fp ∧ Mk fp w w'
set_option maxHeartbeats 2000000 in
theorem markForm_any (x : Fm) (v3 v4 : Value) (fp : List Nat) (k : Int) (w : World) (ht : TrF w x v3 v4 fp) (hnd : fp.Nodup) (hk0 : 1 ≤ k) (hk1 : k + x.cnt ≤ 1000000000) :
    Calls Try.prog 19 #[.agg #[.int .i64 x.f0, .string x.f1, .int .i64 x.f2, v3, v4], .int .i64 k] w (MarkFPost x v3 v4 fp k w) := by
  obtain ⟨inner4, fk4, rfl, h3, h4, hk4⟩ := ht.open
  have hlt := ht.lt _
  obtain ⟨C3, j3, rfl, hj3, _⟩ := own_C h3
  obtain ⟨C4, j4, rfl, hj4, _⟩ := hk4.C h4
  have hce := Fm.cnt_eq x
  have hb1 := below_new w (.cells #[.int .i64 x.f0, .string x.f1, .int .i64 x.f2, .slice C3 x.f3.length j3, .slice C4 x.f4.length j4] 29)
  have mn : Mk (obs (.slice C3 x.f3.length j3)) w _ := Mk.ofBelow hb1
  have h3' := own_move (w1 := w.alloc (.cells #[.int .i64 x.f0, .string x.f1, .int .i64 x.f2, .slice C3 x.f3.length j3, .slice C4 x.f4.length j4] 29)) h3 (fun b hb => hb1.block b (hlt b (List.mem_append_left _ (obs_mem.2 hb))))
  have MI := Lib.hid (markIntS_any x.f3 (.slice C3 x.f3.length j3) k _ (Kd.R_of_own h3' (fun _ _ => trivial)) (by omega) (by omega))
  obtain ⟨p0, p1, p2, p3, p4⟩ := fm_cells (blk_new w (.cells #[.int .i64 x.f0, .string x.f1, .int .i64 x.f2, .slice C3 x.f3.length j3, .slice C4 x.f4.length j4] 29))
  have hg3 : w.heap.size ∉ obs (Value.slice C3 x.f3.length j3) := fun h => by
    have := hlt _ (List.mem_append_left _ h)
    omega
  have hnd2 := List.nodup_append.1 hnd
  have MN := Lib.hid mn
  go_enter Try.func19, Try.ntmps19
  go_wp2_with fail
  refine MI.out.mono ?_
  rintro e w5 ⟨rfl, r5, m5⟩
  have u4 := m5.cell hg3 p4
  have m5' := MN.out.trans m5
  have hd : ∀ b, b ∈ obs (Value.slice C4 x.f4.length j4) ++ fk4 → b ∉ obs (Value.slice C3 x.f3.length j3) := fun b hb h => hnd2.2.2 b h b hb rfl
  have h4' := m5'.own h4 (fun b hb => hd b (List.mem_append_left _ (obs_mem.2 hb))) (fun b hb => hlt b (List.mem_append_right _ (List.mem_append_left _ (obs_mem.2 hb))))
  have hk4' := hk4.move _ (fun b hb => m5'.keep b (hlt b (List.mem_append_right _ (List.mem_append_right _ hb))) (hd b (List.mem_append_right _ hb)))
  have MK := Lib.hid (markFormS_any x.f4 _ _ _ (k + x.f3.length) w5 h4' hk4' hnd2.2.1 (by omega) (by omega))
  clear p0 p1 p2 p3 p4 MI
  go_wp2_with fail
  refine MK.out.mono ?_
  rintro e w6 ⟨rfl, ⟨inner', h6, t6⟩, m6⟩
  have o5 := Kd.own_of_R r5
  rw [markI_length] at o5
  have o6 := m6.own o5 (fun b hb h => hd b h (obs_mem.2 hb)) (fun b hb => Nat.lt_of_lt_of_le (hlt b (List.mem_append_left _ (obs_mem.2 hb))) m5'.b0.size)
  have HT : Hid (TrF w6 (x.mark k) (.slice C3 x.f3.length j3) (.slice C4 x.f4.length j4) (obs (.slice C3 x.f3.length j3) ++ (obs (.slice C4 x.f4.length j4) ++ fk4))) := by
    rw [Fm.mark_eq]
    exact TrF.mk _ _ _ inner' fk4 (by show w6.ownsRow 0 3 1 _ (markI x.f3.length _).length _; rw [markI_length]; exact o6) (by show w6.ownsRow 0 29 5 _ (markL x.f4 _).length _; rw [markL_length]; exact h6) t6
  have HM : Hid (Mk (obs (.slice C3 x.f3.length j3) ++ (obs (.slice C4 x.f4.length j4) ++ fk4)) w w6) := (m5'.more (fun j hj => List.mem_append_left _ hj)).trans (m6.more (fun j hj => List.mem_append_right _ hj))
  have HC := Lib.hid hce
  clear h3 h4 hk4 hlt h3' h4' hk4' m5 m5' m6 o5 o6 h6 t6 r5 u4 hd hg3 hnd hnd2 ht MK mn MN hb1 hce
  go_wp2_with fail
  go_ret
  refine ⟨ret_i ?_, HT.out, HM.out⟩
  rw [HC.out]
  omega
end Go.Proofs.Ytnaefjilcabkoaa
end
section
namespace Go.Proofs.Ytnaefjilcabkoaa
open Go.RowKit Go.Proofs.YtnaefjilcabkoaaW.PrintWords Go.Proofs.YtnaefjilcabkoaaW.PrintLast Go.Proofs.YtnaefjilcabkoaaW.PrintMore
set_option linter.unusedVariables false
set_option linter.unusedSimpArgs false
theorem markL_get : ∀ (l : List Fm) (k : Int) (i : Nat) (h : i < l.length), (markL l k)[i]'(by rw [markL_length]; exact h) = l[i].mark3 (k + cntL (l.take i)) := by
  intro l
  induction l with
  | nil => intro k i h; cases h
  | cons x l ih =>
    intro k i h
    cases i with
    | zero => simp [markL_cons, cntL]
    | succ i =>
      simp only [markL_cons, List.getElem_cons_succ, List.take_succ_cons, cntL_cons]
      rw [ih (k + 3 + x.cnt) i (by simpa using h)]
      congr 1
      omega
def HeldL (ks : List Fm) : Prop := ∀ (A : Option Addr) (c : Nat) (k : Int) (w : World), kF.C w A ks.length (markL ks k) → ks.length ≤ c → 1 ≤ k → k + cntL ks ≤ 1000000000 →
    Calls Try.prog 60 #[.slice A ks.length c, .int .i64 k] w (Ret w (.int .i64 (k + cntL ks)))
set_option maxHeartbeats 4000000 in
set_option maxRecDepth 100000 in
theorem heldFormS_of (ks : List Fm) (hks : ∀ x, x ∈ ks → HeldL x.f4) : HeldL ks := by
  intro A c k w hr hc hk0 hk1
  have hmax := hr.2.1
  have HK := Lib.hid hks
  clear hks
  go_enter Try.func60, Try.ntmps60
  go_wp2_with fail
  go_loopg [1, 5] ks.length (fun kq v1 v5 w' => ∃ i : Nat, i ≤ ks.length ∧ ks.length - i ≤ kq ∧ v5 = .int .i64 i ∧ v1 = .int .i64 (k + (cntL (ks.take i) : Int)) ∧ Aside0 (Below w.heap.size w w'))
  case atStart => exact ⟨0, Nat.zero_le _, by omega, rfl, by simp [cntL], ⟨Below.refl _ _⟩⟩
  case round =>
    obtain ⟨i, hi, hg, rfl, rfl, HW⟩ := hrel
    by_cases hlt : i < ks.length
    · obtain ⟨ad, G3, m3, G4, m4, e, g0, g1, g2, g3, g4, hk⟩ := kid_at (Kd.C_below hr HW.out) i (by rw [markL_length]; exact hlt)
      subst e
      rw [markL_get ks k i hlt] at g0 g1 g2 g3 g4 hk
      have hct := cntL_take ks i hlt
      have hcle := cntL_take_le ks (i + 1)
      have hce := Fm.cnt_eq ks[i]
      generalize hK : k + (cntL (ks.take i) : Int) = K at g0 g1 g2 g3 g4 hk
      simp only [Fm.mark3] at g0 g1 g2
      have g3' : wr.cell? ⟨(ad.add (i * 5)).block, (ad.add (i * 5)).off + 3, none⟩ = some (.slice G3 ks[i].f3.length m3) := by rw [g3]; simp [Fm.mark3, markI_length]
      have g4' : wr.cell? ⟨(ad.add (i * 5)).block, (ad.add (i * 5)).off + 4, none⟩ = some (.slice G4 ks[i].f4.length m4) := by rw [g4]; simp [Fm.mark3, markL_length]
      have j0 : ((K : Int) != K) = false := by simp
      have p1 : (0 : Int) ≤ (i : Int) := by omega
      have p2 : (i : Int) < (ks.length : Int) := by omega
      have n0 : ((mt (K + 1)).toList != (mt (K + 1)).toList) = false := by simp
      have k3 : kI.C wr G3 ks[i].f3.length (markI ks[i].f3.length (K + 1 + 1 + 1)) := by
        have h := hk.g3
        simp only [Fm.mark3, markI_length] at h
        rwa [show K + 1 + 1 + 1 = K + 3 from by omega]
      have k4 : kF.C wr G4 ks[i].f4.length (markL ks[i].f4 (K + 1 + 1 + 1 + ks[i].f3.length)) := by
        have h := hk.g4
        simp only [Fm.mark3, markL_length] at h
        rwa [show K + 1 + 1 + 1 + (ks[i].f3.length : Int) = K + 3 + ks[i].f3.length from by omega]
      have l3 : ks[i].f3.length ≤ m3 := by have h := hk.l3; simpa [Fm.mark3, markI_length] using h
      have l4 : ks[i].f4.length ≤ m4 := by have h := hk.l4; simpa [Fm.mark3, markL_length] using h
      have MT := Lib.hid (fun W => markTextZ (K + 1) W (by omega) (by omega))
      have HI := Lib.hid (fun W hb => heldIntS_any ks[i].f3.length G3 m3 (K + 1 + 1 + 1) W (Kd.C_below k3 hb) l3 (by omega) (by omega))
      have HL := Lib.hid (fun W hb => HK.out ks[i] (List.getElem_mem hlt) G4 m4 (K + 1 + 1 + 1 + ks[i].f3.length) W (Kd.C_below k4 hb) l4 (by omega) (by omega))
      have t1 : decide (K + 1 + 1 + 1 + (ks[i].f3.length : Int) < 0) = false := decide_eq_false (by omega)
      have t2 : decide (K + 1 + 1 + 1 + (ks[i].f3.length : Int) + (cntL ks[i].f4 : Int) < 0) = false := decide_eq_false (by omega)
      have HC := Lib.hid (show cntL (ks.take (i + 1)) = cntL (ks.take i) + (3 + (ks[i].f3.length + cntL ks[i].f4)) from by rw [hct, hce])
      have HKK := Lib.hid hK
      have b1 : 1 ≤ K := by omega
      have b2 : K + 3 + ks[i].f3.length + cntL ks[i].f4 ≤ 1000000000 := by omega
      clear g3 g4 hk k3 k4 l3 l4 hct hce hcle hK
      go_wp2_with fail
      go_region_held3 (fun w' => w'.cell? ⟨(ad.add (i * 5)).block, (ad.add (i * 5)).off + 1, none⟩ = some (.string (mt (K + 1)))) (first | go_keep | exact ck hb1 g1) ((go_at_call 65; refine (MT.out _).mono ?_; rintro e w1 ⟨rfl, hb1⟩))
      have q2 := ck hb1 g2
      have q3 := ck hb1 g3'
      have q4 := ck hb1 g4'
      have B1 := Lib.hid (below_step (Below.refl _ _).drew hb1)
      clear hb1
      go_wp2_with fail
      refine (HI.out _ B1.out).mono ?_
      rintro e w2 ⟨rfl, hb2⟩
      have r4 := ck0 hb2 q4
      have B2 := Lib.hid (below_step B1.out hb2)
      clear hb2
      go_wp2_with fail
      refine (HL.out _ B2.out).mono ?_
      rintro e w3 ⟨rfl, hb3⟩
      have B3 := Lib.hid (below_step HW.out (below_step B2.out hb3))
      clear hb3
      go_wp2_with fail
      go_roundg (ks.length - (i + 1))
      case measure => omega
      case rel =>
        have hc := HC.out
        have hk := HKK.out
        exact ⟨i + 1, by omega, Nat.le_refl _, by go_num, by rw [hc, ← hk]; go_num, ⟨B3.out⟩⟩
    · obtain rfl : i = ks.length := by omega
      have HT : Hid (ks.take ks.length = ks) := List.take_length
      go_wp2_with fail
      go_ret
      exact ⟨ret_i (by rw [HT.out]), HW.out⟩
theorem heldL_kids (x : Fm) : HeldL x.f4 := by
  induction x using Fm.ind with
  | h x ih => exact heldFormS_of x.f4 ih
theorem heldFormS_any (ks : List Fm) : HeldL ks := heldFormS_of ks (fun x _ => heldL_kids x)
set_option maxHeartbeats 2000000 in
theorem heldForm_any (x : Fm) (A3 : Option Addr) (c3 : Nat) (A4 : Option Addr) (c4 : Nat) (k : Int) (w : World) (hin : FmIn w (x.mark k) A3 c3 A4 c4) (hk0 : 1 ≤ k) (hk1 : k + x.cnt ≤ 1000000000) :
    Calls Try.prog 20 #[.agg #[.int .i64 x.f0, .string x.f1, .int .i64 x.f2, .slice A3 x.f3.length c3, .slice A4 x.f4.length c4], .int .i64 k] w (Ret w (.int .i64 (k + x.cnt))) := by
  rw [Fm.mark_eq] at hin
  have hce := Fm.cnt_eq x
  have k3 : kI.C w A3 x.f3.length (markI x.f3.length k) := by have h := hin.g3; simpa only [markI_length] using h
  have k4 : kF.C w A4 x.f4.length (markL x.f4 (k + x.f3.length)) := by have h := hin.g4; simpa only [markL_length] using h
  have l3 : x.f3.length ≤ c3 := by have h := hin.l3; simpa only [markI_length] using h
  have l4 : x.f4.length ≤ c4 := by have h := hin.l4; simpa only [markL_length] using h
  have HI := Lib.hid (fun W hb => heldIntS_any x.f3.length A3 c3 k W (Kd.C_below k3 hb) l3 (by omega) (by omega))
  have HL := Lib.hid (fun W hb => heldFormS_any x.f4 A4 c4 (k + x.f3.length) W (Kd.C_below k4 hb) l4 (by omega) (by omega))
  have t1 : decide (k + (x.f3.length : Int) < 0) = false := decide_eq_false (by omega)
  have t2 : decide (k + (x.f3.length : Int) + (cntL x.f4 : Int) < 0) = false := decide_eq_false (by omega)
  have HC := Lib.hid hce
  clear hin k3 k4 l3 l4 hce
  go_enter Try.func20, Try.ntmps20
  go_wp2_with fail
  refine (HI.out _ (below_new _ _)).mono ?_
  rintro e w1 ⟨rfl, hb1⟩
  obtain ⟨z1, b1⟩ := one_new hb1
  obtain ⟨p0, p1, p2, p3, p4⟩ := fm_cells z1
  have B1 := Lib.hid b1
  clear hb1 b1 z1
  go_wp2_with fail
  refine (HL.out _ B1.out).mono ?_
  rintro e w2 ⟨rfl, hb2⟩
  have B2 := Lib.hid (below_step B1.out hb2)
  clear hb2
  go_wp2_with fail
  go_ret
  refine ⟨ret_i ?_, B2.out⟩
  rw [HC.out]
  omega
end Go.Proofs.Ytnaefjilcabkoaa
end
section
namespace Go.Proofs.Ytnaefjilcabkoaa
open Go.RowKit Go.Proofs.YtnaefjilcabkoaaW.PrintWords Go.Proofs.YtnaefjilcabkoaaW.PrintLast Go.Proofs.YtnaefjilcabkoaaW.PrintMore
set_option linter.unusedVariables false
set_option linter.unusedSimpArgs false
theorem keepTen {w1 w2 : World} (hb : Below w1.heap.size w1 w2) {a0 a1 a2 a3 a4 a5 a6 a7 a8 a9 : Addr} {v0 v1 v2 v3 v4 v5 v6 v7 v8 v9 : Value} (h : w1.cell? a0 = some v0 ∧ w1.cell? a1 = some v1 ∧ w1.cell? a2 = some v2 ∧ w1.cell? a3 = some v3 ∧ w1.cell? a4 = some v4 ∧ w1.cell? a5 = some v5 ∧ w1.cell? a6 = some v6 ∧ w1.cell? a7 = some v7 ∧ w1.cell? a8 = some v8 ∧ w1.cell? a9 = some v9) :
    w2.cell? a0 = some v0 ∧ w2.cell? a1 = some v1 ∧ w2.cell? a2 = some v2 ∧ w2.cell? a3 = some v3 ∧ w2.cell? a4 = some v4 ∧ w2.cell? a5 = some v5 ∧ w2.cell? a6 = some v6 ∧ w2.cell? a7 = some v7 ∧ w2.cell? a8 = some v8 ∧ w2.cell? a9 = some v9 :=
  let ⟨h0, h1, h2, h3, h4, h5, h6, h7, h8, h9⟩ := h
  ⟨ck0 hb h0, ck0 hb h1, ck0 hb h2, ck0 hb h3, ck0 hb h4, ck0 hb h5, ck0 hb h6, ck0 hb h7, ck0 hb h8, ck0 hb h9⟩
theorem cntL_tot (l : List Fm) (h : ∀ k, k ∈ l → k.cnt ≤ 3 * k.tot) : cntL l ≤ 3 * totL l := by
  induction l with
  | nil => simp [cntL]
  | cons k ks ih =>
    have h1 := h k List.mem_cons_self
    have h2 := ih (fun y hy => h y (List.mem_cons_of_mem _ hy))
    rw [cntL_cons]
    show _ ≤ 3 * (1 + k.tot + totL ks)
    omega
theorem Fm.cnt_tot (x : Fm) : x.cnt ≤ 3 * x.tot := by
  induction x using Fm.ind with
  | h x ih =>
    have h1 := cntL_tot x.f4 ih
    have h2 := x.cnt_eq
    have h3 := x.tot_eq
    omega
theorem Mk.blk {S : List Nat} {w w' : World} {g : Nat} {O : Obj} (h : Mk S w w') (hg : w.heap[g]? = some O) (hs : g ∉ S) : w'.heap[g]? = some O := by
  rw [h.keep g (blk_lt hg) hs]; exact hg
/-- A form in the blocks fp, which lie from lo on and ahead of hi. -/
structure Own (lo hi : Nat) (w : World) (x : Fm) (v3 v4 : Value) (fp : List Nat) : Prop where
  tree : TrF w x v3 v4 fp
  nd : fp.Nodup
  lo_ : ∀ b, b ∈ fp → lo ≤ b
  hi_ : ∀ b, b ∈ fp → b < hi
  sz : hi ≤ w.heap.size
theorem NewF.own {lo : Nat} {w : World} {x : Fm} {v3 v4 : Value} (h : NewF lo w x v3 v4) : ∃ A3 c3 A4 c4 fp, v3 = .slice A3 x.f3.length c3 ∧ v4 = .slice A4 x.f4.length c4 ∧ Own lo w.heap.size w x (.slice A3 x.f3.length c3) (.slice A4 x.f4.length c4) fp := by
  obtain ⟨fp, ht, hn, hg⟩ := h
  obtain ⟨A3, c3, A4, c4, rfl, rfl, _⟩ := ht.In
  exact ⟨A3, c3, A4, c4, fp, rfl, rfl, ht, hn, hg, ht.lt _, Nat.le_refl _⟩
theorem Own.later {lo hi : Nat} {w W : World} {x : Fm} {v3 v4 : Value} {fp : List Nat} (h : Own lo hi w x v3 v4 fp) (b : Below w.heap.size w W) : Own lo hi W x v3 v4 fp :=
  ⟨h.tree.later b, h.nd, h.lo_, h.hi_, Nat.le_trans h.sz b.size⟩
theorem Own.now {lo hi : Nat} {w : World} {x : Fm} {A3 : Option Addr} {c3 : Nat} {A4 : Option Addr} {c4 : Nat} {fp : List Nat} (h : Own lo hi w x (.slice A3 x.f3.length c3) (.slice A4 x.f4.length c4) fp) : FmIn w x A3 c3 A4 c4 := by
  obtain ⟨B3, d3, B4, d4, e1, e2, hin⟩ := h.tree.In
  injection e1 with a1 _ a2
  injection e2 with a3 _ a4
  subst a1 a2 a3 a4
  exact hin
/-- The blocks of S, from lo on and ahead of hi, and new ones may have changed. -/
structure Mrk (lo hi : Nat) (w w' : World) : Prop where
  ex : ∃ S, Mk S w w' ∧ ∀ b, b ∈ S → lo ≤ b ∧ b < hi
theorem Mrk.blk {lo hi : Nat} {w w' : World} {g : Nat} {O : Obj} (h : Mrk lo hi w w') (hg : w.heap[g]? = some O) (hs : g < lo ∨ hi ≤ g) : w'.heap[g]? = some O := by
  obtain ⟨S, hm, hS⟩ := h.ex
  exact hm.blk hg (fun q => by have := hS g q; omega)
theorem Mrk.below {lo hi B : Nat} {w w' : World} (h : Mrk lo hi w w') (hB : B ≤ w.heap.size) (hl : B ≤ lo) : Below B w w' := by
  obtain ⟨S, hm, hS⟩ := h.ex
  exact hm.below hB (fun b hb => Nat.le_trans hl (hS b hb).1)
theorem Mrk.own {lo hi lo2 hi2 : Nat} {w w' : World} {x : Fm} {v3 v4 : Value} {fp : List Nat} (h : Mrk lo hi w w') (ho : Own lo2 hi2 w x v3 v4 fp) (hd : hi ≤ lo2 ∨ hi2 ≤ lo) : Own lo2 hi2 w' x v3 v4 fp := by
  obtain ⟨S, hm, hS⟩ := h.ex
  exact ⟨hm.tree ho.tree (fun b hb q => by have := hS b q; have := ho.lo_ b hb; have := ho.hi_ b hb; omega), ho.nd, ho.lo_, ho.hi_, Nat.le_trans ho.sz hm.b0.size⟩
theorem Mrk.size {lo hi : Nat} {w w' : World} (h : Mrk lo hi w w') : w.heap.size ≤ w'.heap.size := by
  obtain ⟨S, hm, hS⟩ := h.ex
  exact hm.b0.size
/-- What is returned: a form in new blocks. -/
def GetO1 (w : World) (x : Fm) (e : Ending) (w' : World) : Prop := ∃ A3 c3 A4 c4 fp, e = .returned (.agg #[.int .i64 x.f0, .string x.f1, .int .i64 x.f2, .slice A3 x.f3.length c3, .slice A4 x.f4.length c4]) ∧ Own w.heap.size w'.heap.size w' x (.slice A3 x.f3.length c3) (.slice A4 x.f4.length c4) fp ∧ Below w.heap.size w w'
theorem RetF.getO1 {w : World} {x : Fm} {e : Ending} {w' : World} (h : RetF w x e w') : GetO1 w x e w' := by
  obtain ⟨v3, v4, rfl, hn, hb⟩ := h
  obtain ⟨A3, c3, A4, c4, fp, rfl, rfl, ho⟩ := NewF.own hn
  exact ⟨A3, c3, A4, c4, fp, rfl, ho, hb⟩
theorem toFormO (x : Fm) (A3 : Option Addr) (c3 : Nat) (A4 : Option Addr) (c4 : Nat) (w : World) (hin : FmIn w x A3 c3 A4 c4) (ht : x.tot ≤ 1048576) :
    Calls Try.prog 16 #[.agg #[.int .i64 x.f0, .string x.f1, .int .i64 x.f2, .slice A3 x.f3.length c3, .slice A4 x.f4.length c4]] w (GetO1 w x) :=
  (toForm_any x A3 c3 A4 c4 w hin ht).mono (fun e w' h => h.getO1)
theorem markForm_own {lo hi : Nat} {w : World} {x : Fm} {v3 v4 : Value} {fp : List Nat} (k : Int) (h : Own lo hi w x v3 v4 fp) (hk0 : 1 ≤ k) (hk1 : k + 3 * x.tot ≤ 1000000000) :
    Calls Try.prog 19 #[.agg #[.int .i64 x.f0, .string x.f1, .int .i64 x.f2, v3, v4], .int .i64 k] w (fun e w' => e = .returned (.int .i64 (k + x.cnt)) ∧ Own lo hi w' (x.mark k) v3 v4 fp ∧ Mrk lo hi w w') := by
  have hc := x.cnt_tot
  refine (markForm_any x v3 v4 fp k w h.tree h.nd hk0 (by omega)).mono ?_
  rintro e w' ⟨rfl, ht, hm⟩
  exact ⟨rfl, ⟨ht, h.nd, h.lo_, h.hi_, Nat.le_trans h.sz hm.b0.size⟩, ⟨fp, hm, fun b hb => ⟨h.lo_ b hb, h.hi_ b hb⟩⟩⟩
theorem heldForm_own {lo hi : Nat} {w : World} {x : Fm} {A3 : Option Addr} {c3 : Nat} {A4 : Option Addr} {c4 : Nat} {fp : List Nat} (k : Int) (h : Own lo hi w (x.mark k) (.slice A3 x.f3.length c3) (.slice A4 x.f4.length c4) fp) (hk0 : 1 ≤ k) (hk1 : k + 3 * x.tot ≤ 1000000000) :
    Calls Try.prog 20 #[.agg #[.int .i64 x.f0, .string x.f1, .int .i64 x.f2, .slice A3 x.f3.length c3, .slice A4 x.f4.length c4], .int .i64 k] w (Ret w (.int .i64 (k + x.cnt))) := by
  have hc := x.cnt_tot
  refine heldForm_any x A3 c3 A4 c4 k w ?_ hk0 (by omega)
  have e3 : (x.mark k).f3.length = x.f3.length := by rw [Fm.mark_eq]; exact markI_length _ _
  have e4 : (x.mark k).f4.length = x.f4.length := by rw [Fm.mark_eq]; exact markL_length _ _
  rw [← e3, ← e4] at h
  exact h.now
end Go.Proofs.Ytnaefjilcabkoaa
end
section
namespace Go.Proofs.Ytnaefjilcabkoaa
open Go.RowKit Go.Proofs.YtnaefjilcabkoaaW.PrintWords Go.Proofs.YtnaefjilcabkoaaW.PrintLast Go.Proofs.YtnaefjilcabkoaaW.PrintMore
set_option linter.unusedVariables false
set_option linter.unusedSimpArgs false
/-- A row of numbers in new memory is handed back. -/
def RetI (w : World) (xs : List Int) (e : Ending) (w' : World) : Prop := ∃ v, e = .returned v ∧ kI.R 3 w' w.heap.size (fun _ => True) v xs ∧ Below w.heap.size w w'
set_option maxHeartbeats 1000000 in
theorem cloneI_any (xs : List Int) (A : Option Addr) (c : Nat) (w : World) (hr : kI.C w A xs.length xs) (hc : xs.length ≤ c) (hs : xs.length ≤ 17592186044416) :
    Calls Try.prog 121 #[.slice A xs.length c] w (RetI w xs) := by
  have hmax := hr.2.1
  cases A with
  | none =>
    have hz : xs = [] := by
      rcases hr.2.2 with h
      by_cases hp : 0 < xs.length
      · obtain ⟨ad, he, _⟩ := h hp
        cases he
      · exact List.eq_nil_of_length_eq_zero (by omega)
    subst hz
    have hq := fun w => Go.run_eql_slice_nil (P := Try.prog) w 22 3 none 0 c Try.underlying22
    simp only [Option.isNone_none] at hq
    clear hr hmax
    go_enter Try.func121, Try.ntmps121
    go_wp2_with fail
    go_ret
    exact ⟨_, rfl, Kd.R_nil _ _ _ _ _, Below.refl _ _⟩
  | some ad =>
    have hq := fun w => Go.run_eql_slice_nil (P := Try.prog) w 22 3 (some ad) xs.length c Try.underlying22
    simp only [Option.isNone_some] at hq
    have HR := Aside0.mk hr
    clear hr
    go_enter Try.func121, Try.ntmps121
    go_wp2_with (first | ((with_reducible refine gate_dst (N := 5) rfl ?_); refine Kd.R_lit (Kd.int .i64) _ 3 ?hg (N := 5) ?hd (xs := ([] : List Int)) (inner := []) (ok := fun _ => True) (okp := fun _ => True) ?hr ?hp (fun _ hk => hk) trivial (Below.refl _ _) (Nat.le_refl _) (by simp) ?_; (case hd => rfl); (case hg => rfl); (case hr => first | (go_simp; done) | (go_simp; rfl)); (case hp => exact (Reps.none _ _)); intro v0 w0 ho0 hb0 hg0 hn0; have HO := Aside0.mk ho0; have HB := Aside0.mk hb0; clear ho0 hb0 hg0 hn0) | ((with_reducible refine gate_dst (N := 7) rfl ?_); refine Kd.R_append_row (Value.int .i64) (0 : Int) (w0 := w) w.heap.size rfl (.tmp 5) (.tmp 6) 22 3 (.int .i64 0) 8 rfl Try.underlying22 infoI rfl (by decide) v0 [] xs (some ad) xs.length c (fun _ => True) rfl rfl (fun _ _ => trivial) HO.out (Kd.C_below HR.out HB.out) HB.out HB.out.size (by simp; omega) ?_; intro v1 w1 ho1 hb1 hg1 hn1; have HO1 := Aside0.mk ho1; have HB1 := Aside0.mk hb1; clear ho1 hb1 hg1 hn1))
    go_ret
    exact ⟨_, rfl, (by have := HO1.out; rw [List.nil_append] at this; exact this), HB1.out⟩
end Go.Proofs.Ytnaefjilcabkoaa
end
section
namespace Go.Proofs.Ytnaefjilcabkoaa
open Go.RowKit Go.Proofs.YtnaefjilcabkoaaW.PrintWords Go.Proofs.YtnaefjilcabkoaaW.PrintLast Go.Proofs.YtnaefjilcabkoaaW.PrintMore
set_option linter.unusedVariables false
set_option linter.unusedSimpArgs false
theorem own_geI {w : World} {B e sz n : Nat} {v : Value} {xs : List Value} (h : w.ownsRow B e sz v n xs) : ∀ k, v.ownBlock = some k → B ≤ k := by
  intro k hk
  rcases h with ⟨_, ⟨rfl, _⟩ | ⟨g, cap, cur, rfl, hg, _⟩⟩
  · cases hk
  · have : g = k := by simpa [Value.ownBlock] using hk
    omega
/-- A list of ints whose block lies from lo on and ahead of hi. -/
structure OwnI (lo hi : Nat) (w : World) (v : Value) (xs : List Int) : Prop where
  row : w.ownsRow 0 3 1 v xs.length (encI xs)
  at_ : ∀ b, v.ownBlock = some b → lo ≤ b ∧ b < hi
  sz : hi ≤ w.heap.size
def GetOI (w : World) (xs : List Int) (e : Ending) (w' : World) : Prop := ∃ A c, e = .returned (.slice A xs.length c) ∧ OwnI w.heap.size w'.heap.size w' (.slice A xs.length c) xs ∧ Below w.heap.size w w'
theorem RetI.getOI {w : World} {xs : List Int} {e : Ending} {w' : World} (h : RetI w xs e w') : GetOI w xs e w' := by
  obtain ⟨v, rfl, hR, hb⟩ := h
  have ho := Kd.own_of_R hR
  have h0 := own_base_ (B := 0) (own_base_ (B := 0) (w := w') (e := 3) (sz := 1) (n := xs.length) (v := v) (xs := encI xs) ⟨ho.1, by
    rcases ho.2 with q | ⟨g, cap, cur, e, _, r⟩
    · exact .inl q
    · exact .inr ⟨g, cap, cur, e, Nat.zero_le _, r⟩⟩ (fun _ _ => Nat.zero_le _)) (fun _ _ => Nat.zero_le _)
  obtain ⟨A, c, rfl, _, _⟩ := own_C h0
  exact ⟨A, c, rfl, ⟨h0, fun b hb2 => ⟨own_geI ho b hb2, own_lt ho b hb2⟩, Nat.le_refl _⟩, hb⟩
theorem OwnI.now {lo hi : Nat} {w : World} {A : Option Addr} {c : Nat} {xs : List Int} (h : OwnI lo hi w (.slice A xs.length c) xs) : xs.length ≤ c ∧ kI.C w A xs.length xs := by
  obtain ⟨B, d, e, hc, hr⟩ := own_C h.row
  injection e with e1 _ e2
  subst e1 e2
  exact ⟨hc, hr⟩
theorem OwnI.later {lo hi : Nat} {w W : World} {v : Value} {xs : List Int} (h : OwnI lo hi w v xs) (b : Below w.heap.size w W) : OwnI lo hi W v xs :=
  ⟨own_move h.row (fun k hk => b.block k (Nat.lt_of_lt_of_le (h.at_ k hk).2 h.sz)), h.at_, Nat.le_trans h.sz b.size⟩
/-- The list's contents may be another by now. -/
theorem OwnI.move_ {lo hi n : Nat} {w W : World} {A : Option Addr} {c : Nat} {k : Int} (h : OwnI lo hi w (.slice A n c) (markI n k)) (b : Below w.heap.size w W) : OwnI lo hi W (.slice A n c) (markI n k) := h.later b
theorem Mrk.ownI {lo hi lo2 hi2 : Nat} {w w' : World} {v : Value} {xs : List Int} (h : Mrk lo hi w w') (ho : OwnI lo2 hi2 w v xs) (hd : hi ≤ lo2 ∨ hi2 ≤ lo) : OwnI lo2 hi2 w' v xs := by
  obtain ⟨S, hm, hS⟩ := h.ex
  exact ⟨own_move ho.row (fun k hk => hm.keep k (Nat.lt_of_lt_of_le (ho.at_ k hk).2 ho.sz) (fun q => by have := hS k q; have := ho.at_ k hk; omega)), ho.at_, Nat.le_trans ho.sz hm.b0.size⟩
theorem markIntS_own {lo hi : Nat} {w : World} {v : Value} {xs : List Int} (k : Int) (h : OwnI lo hi w v xs) (hk0 : 0 ≤ k) (hk1 : k + xs.length ≤ 1000000000) :
    Calls Try.prog 37 #[v, .int .i64 k] w (fun e w' => e = .returned (.int .i64 (k + xs.length)) ∧ OwnI lo hi w' v (markI xs.length k) ∧ Mrk lo hi w w') := by
  refine (markIntS_any xs v k w (Kd.R_of_own h.row (fun _ _ => trivial)) hk0 hk1).mono ?_
  rintro e w' ⟨rfl, hR, hm⟩
  exact ⟨rfl, ⟨Kd.own_of_R hR, h.at_, Nat.le_trans h.sz hm.b0.size⟩, ⟨_, hm, fun b hb => h.at_ b (obs_mem.1 hb)⟩⟩
theorem heldIntS_own {lo hi : Nat} {w : World} {A : Option Addr} {c n : Nat} (k : Int) (h : OwnI lo hi w (.slice A n c) (markI n k)) (hk0 : 0 ≤ k) (hk1 : k + n ≤ 1000000000) :
    Calls Try.prog 38 #[.slice A n c, .int .i64 k] w (Ret w (.int .i64 (k + n))) := by
  have e : n = (markI n k).length := (markI_length n k).symm
  have h2 : OwnI lo hi w (.slice A (markI n k).length c) (markI n k) := by rw [markI_length]; exact h
  have h3 := h2.now
  rw [markI_length] at h3
  exact heldIntS_any n A c k w h3.2 h3.1 hk0 hk1
end Go.Proofs.Ytnaefjilcabkoaa
end
section
namespace Go.Proofs.Ytnaefjilcabkoaa
open Go.RowKit Go.Proofs.YtnaefjilcabkoaaW.PrintWords Go.Proofs.YtnaefjilcabkoaaW.PrintLast Go.Proofs.YtnaefjilcabkoaaW.PrintMore
set_option linter.unusedVariables false
set_option linter.unusedSimpArgs false
/-- What a cut from the front keeps: zeros behind it do not matter. -/
theorem own_zeroed {e g cap base : Nat} : ∀ (vs : List Value) (o : Nat) (w : World) (m : Nat) (inner : List Value), w.ownsRow base e 1 (.slice (some ⟨g, 0, none⟩) m cap) m inner → m ≤ o → (w.setCells g o vs).ownsRow base e 1 (.slice (some ⟨g, 0, none⟩) m cap) m inner
  | [], _, _, _, _, h, _ => h
  | u :: r, o, w, m, inner, h, ho => by
    rw [World.setCells]
    refine own_zeroed r (o + 1) _ m inner ?_ (by omega)
    have := (World.ownsRow.stored h o u).1
    rwa [List.set_eq_of_length_le (by have := h.1; omega)] at this
theorem filter_yes (p : Int → Bool) (xs : List Int) (j : Nat) (hlt : j < xs.length) (hp : p xs[j] = true) : (xs.take (j + 1)).filter (fun x => !p x) = (xs.take j).filter (fun x => !p x) := by
  rw [List.take_succ_eq_append_getElem hlt, List.filter_append]
  simp [hp]
theorem filter_no (p : Int → Bool) (xs : List Int) (j : Nat) (hlt : j < xs.length) (hp : p xs[j] = false) : (xs.take (j + 1)).filter (fun x => !p x) = (xs.take j).filter (fun x => !p x) ++ [xs[j]] := by
  rw [List.take_succ_eq_append_getElem hlt, List.filter_append]
  simp [hp]
theorem Mk.setCells {S : List Nat} {g : Nat} (hg : g ∈ S) : ∀ (vs : List Value) (o : Nat) (w : World), Mk S w (w.setCells g o vs)
  | [], _, w => Mk.refl S w
  | u :: r, o, w => by
    rw [World.setCells]
    exact (Mk.set w hg o u).trans (Mk.setCells hg r (o + 1) _)
set_option maxHeartbeats 4000000 in
set_option maxRecDepth 100000 in
theorem deleteFuncI_any (xs : List Int) (p : Int → Bool) (g : Nat) (lb : Array Value) (eg : ∀ args w, (callFunc g args).run Try.prog w = .ok (.enter g args) w) (v : Value) (B : Nat) (ok : Nat → Prop) (w : World) (h : kI.R 3 w B ok v xs)
    (hp : ∀ x, x ∈ xs → ∀ W, Mk (obs v) w W → Calls Try.prog g (#[.int .i64 x] ++ lb) W (Ret W (.bool (p x)))) :
    Calls Try.prog 110 #[v, .func (.func g) #[] lb] w (fun e w' => ∃ v', e = .returned v' ∧ kI.R 3 w' B ok v' (xs.filter (fun x => !p x)) ∧ Mk (obs v) w w' ∧ (∀ b, v'.ownBlock = some b → v.ownBlock = some b)) := by
  obtain ⟨A, c, rfl, hcap, hC0⟩ := Kd.R_reads h
  have hmax := hC0.2.1
  have HIX := Lib.hid (indexFuncI_any xs p g lb eg A c w hC0 hcap (fun x hx W hb => hp x hx W (Mk.ofBelow hb)))
  have HP := Lib.hid hp
  have HO0 := Aside0.mk h
  clear hp hC0 h
  have hlo := fidx_lt p xs
  by_cases hany : xs.any p = true
  · have hf0 : 0 ≤ fidx p xs := of_decide_eq_true ((fidx_any p xs).trans hany)
    obtain ⟨i0, hi0⟩ : ∃ i0 : Nat, fidx p xs = i0 := ⟨(fidx p xs).toNat, by omega⟩
    have hlt0 : i0 < xs.length := by omega
    have hidx : xs.findIdx p = i0 := by
      unfold fidx at hi0
      split at hi0 <;> omega
    have hpre : ∀ j (hj : j < i0), p (xs[j]'(by omega)) = false := fun j hj => by
      have := List.not_of_lt_findIdx (p := p) (xs := xs) (i := j) (by omega)
      simpa using this
    have hat : p xs[i0] = true := by
      have := List.findIdx_getElem (p := p) (xs := xs) (w := by omega)
      simpa [hidx] using this
    have hflt : (xs.take (i0 + 1)).filter (fun x => !p x) = xs.take i0 := by
      rw [List.take_succ_eq_append_getElem hlt0, List.filter_append]
      have e1 : (xs.take i0).filter (fun x => !p x) = xs.take i0 := by
        rw [List.filter_eq_self]
        intro x hx
        obtain ⟨j, hj, rfl⟩ := List.getElem_of_mem hx
        rw [List.length_take] at hj
        rw [List.getElem_take, hpre j (by omega)]
        rfl
      rw [e1]
      simp [hat]
    have t1 : ((i0 : Int) == -1) = false := by rw [beq_eq_false_iff_ne]; omega
    have t1' : ((i0 : Int) != -1) = true := by rw [bne_iff_ne]; omega
    rw [hi0] at HIX
    have HFL := Lib.hid hflt
    clear hany hf0 hi0 hlo hidx hpre hat hflt
    obtain ⟨gg, cap, e, hg1, hg2, hg3⟩ : ∃ gg cap, A = some ⟨gg, 0, none⟩ ∧ c = cap ∧ B ≤ gg ∧ gg < w.heap.size := by
      obtain ⟨gg, cap, e, h1, h2, _⟩ := Kd.R_form HO0.out (by omega)
      injection e with e1 e2 e3
      exact ⟨gg, cap, e1, e3, h1, h2⟩
    subst e
    subst hg1
    have HG := Lib.hid hg3
    clear hg2 hg3
    go_enter Try.func110, Try.ntmps110
    go_wp2_with fail
    refine HIX.out.mono ?_
    rintro e w1 ⟨rfl, hb1⟩
    have HB1 := Lib.hid hb1
    clear hb1 HIX
    go_wp2_with fail
    go_loopg [5, 6, 7] xs.length (fun kq v5 v6 v7 w' => ∃ (i j : Nat) (ys : List Int), i < j ∧ j ≤ xs.length ∧ xs.length - j ≤ kq ∧ v5 = .int .i64 i ∧ v6 = .int .i64 j ∧ ys.length = xs.length ∧ Aside0 (ys.take i = (xs.take j).filter (fun x => !p x)) ∧ Aside0 (ys.drop j = xs.drop j) ∧ Aside0 (kI.R 3 w' B ok (.slice (some ⟨gg, 0, none⟩) xs.length c) ys) ∧ Aside0 (Mk (obs (.slice (some ⟨gg, 0, none⟩) xs.length c)) w w'))
    case atStart =>
      refine ⟨i0, i0 + 1, xs, by omega, by omega, by omega, rfl, by go_num, rfl, ⟨HFL.out.symm⟩, ⟨rfl⟩, ⟨Kd.R_below HO0.out HB1.out⟩, ⟨Mk.ofBelow HB1.out⟩⟩
    case round =>
      obtain ⟨i, j, ys, hij, hj, hg, rfl, rfl, hlen, HF, HD, HO, HM⟩ := hrel
      by_cases hlt : j < xs.length
      · obtain ⟨g2, cap2, e, _, _, hx, hfz, _, _⟩ := own_at HO.out j (by omega)
        obtain ⟨g3, cap3, e3, _, _, hx3, hfz3, _, HP3⟩ := own_at HO.out i (by omega)
        rw [hlen] at e e3 HP3
        obtain ⟨rfl, rfl⟩ : gg = g2 ∧ c = cap2 := by
          injection e with e1 _ e2
          injection e1 with e1
          injection e1 with e1
          exact ⟨e1, e2⟩
        obtain ⟨rfl, rfl⟩ : gg = g3 ∧ c = cap3 := by
          injection e3 with e1 _ e2
          injection e1 with e1
          injection e1 with e1
          exact ⟨e1, e2⟩
        have hyx : ys[j] = xs[j] := by
          have h1 := congrArg (fun l => l[0]?) HD.out
          simp only [List.getElem?_drop, Nat.add_zero] at h1
          rw [List.getElem?_eq_getElem (by omega), List.getElem?_eq_getElem hlt] at h1
          exact Option.some.inj h1
        rw [hyx] at hx
        have HC := Lib.hid (HP.out xs[j] (List.getElem_mem hlt) wr HM.out)
        have hd1 : xs.drop (j + 1) = ys.drop (j + 1) := by
          have := congrArg (List.drop 1) HD.out
          rw [List.drop_drop, List.drop_drop] at this
          exact this.symm
        have HD1 := Lib.hid hd1
        clear e e3 hyx hd1 hx3
        cases hb : p xs[j] with
        | true =>
          rw [hb] at HC
          have HFJ2 := Lib.hid (filter_yes p xs j hlt hb)
          clear hb HP3
          go_wp2_with fail
          refine HC.out.mono ?_
          rintro e w2 ⟨rfl, hb2⟩
          have HB2 := Lib.hid hb2
          clear hb2
          go_wp2_with fail
          go_roundg (xs.length - (j + 1))
          case measure => omega
          case rel =>
            exact ⟨i, j + 1, ys, by omega, by omega, Nat.le_refl _, by go_num, by go_num, hlen, ⟨HF.out.trans HFJ2.out.symm⟩, ⟨HD1.out.symm⟩, ⟨Kd.R_below HO.out HB2.out⟩, ⟨HM.out.trans (Mk.ofBelow HB2.out)⟩⟩
        | false =>
          rw [hb] at HC
          have HFJ2 := Lib.hid (filter_no p xs j hlt hb)
          clear hb HP3
          go_wp2_with fail
          refine HC.out.mono ?_
          rintro e w2 ⟨rfl, hb2⟩
          have HO2 := Aside0.mk (Kd.R_below HO.out hb2)
          obtain ⟨g4, cap4, e4, _, _, hx4, hfz4, _, HP4⟩ := own_at HO2.out i (by omega)
          rw [hlen] at e4 HP4
          obtain ⟨rfl, rfl⟩ : gg = g4 ∧ c = cap4 := by
            injection e4 with e1 _ e2
            injection e1 with e1
            injection e1 with e1
            exact ⟨e1, e2⟩
          have HP4 := Lib.hid (HP4 xs[j])
          have HM2 := Lib.hid ((HM.out.trans (Mk.ofBelow hb2)).trans (Mk.set w2 (S := obs (.slice (some ⟨gg, 0, none⟩) xs.length c)) (g := gg) (by simp [obs, Value.ownBlock]) i (.int .i64 xs[j])))
          clear hb2 e4
          go_wp2_with fail
          go_roundg (xs.length - (j + 1))
          case measure => omega
          case rel =>
            refine ⟨i + 1, j + 1, ys.set i xs[j], by omega, by omega, Nat.le_refl _, by go_num, by go_num, by rw [List.length_set]; exact hlen, ⟨?_⟩, ⟨?_⟩, ⟨HP4.out⟩, ⟨HM2.out⟩⟩
            · rw [HFJ2.out, ← HF.out, List.take_succ_eq_append_getElem (by rw [List.length_set]; omega), List.take_set_of_le (Nat.le_refl i)]
              simp
            · rw [List.drop_set_of_lt (by omega), ← HD1.out]
      · obtain rfl : j = xs.length := by omega
        have hF := HF.out
        rw [List.take_length] at hF
        have hn : xs.length - i ≠ 0 := by omega
        have hcc := Kd.R_celln (0 : Int) HO.out
        have hcl : ∀ ty, (Builtin.clear_ #[22] ty #[.slice (some ⟨gg, i, none⟩) (xs.length - i) (c - i)]).run Try.prog wr = .ok (.tuple #[]) (wr.setCells gg i (List.replicate (xs.length - i) (.int .i64 0))) :=
          fun ty => Lib.run_clear_slice wr 22 3 ty (.int .i64 0) Try.underlying22 (fun _ => by kernel_rfl) rfl rfl gg i _ _ (by omega) (fun k hk => by
            have := (hcc ((i + k : Nat) : Int) (by omega) (by omega)).1
            rw [Int.toNat_natCast] at this
            rw [this]; rfl) (fun k hk => by
            have := (hcc ((i + k : Nat) : Int) (by omega) (by omega)).2
            rwa [Int.toNat_natCast] at this)
        have HR := Lib.hid (show kI.R 3 (wr.setCells gg i (List.replicate (xs.length - i) (.int .i64 0))) B ok (.slice (some ⟨gg, 0, none⟩) i c) (xs.filter (fun x => !p x)) from by
          have h1 := Kd.R_take (m := i) HO.out (by omega)
          rw [hF] at h1
          refine Kd.R_of_own ?_ h1.1
          have hle : (xs.filter (fun x => !p x)).length = i := by rw [← hF, List.length_take]; omega
          have h2 := Kd.own_of_R h1
          rw [hle] at h2 ⊢
          exact own_zeroed _ i wr i _ h2 (Nat.le_refl _))
        have HM2 := Lib.hid (HM.out.trans (Mk.setCells (S := obs (.slice (some ⟨gg, 0, none⟩) xs.length c)) (g := gg) (by simp [obs, Value.ownBlock]) (List.replicate (xs.length - i) (.int .i64 0)) i wr))
        clear hcc hF
        have h1 : i ≤ xs.length := by omega
        have h2 : i ≤ c := by omega
        have h3 : i ≠ c := by omega
        go_wp2_with (simp only [hcl])
        go_ret
        exact ⟨_, rfl, HR.out, HM2.out, fun b hb => hb⟩
  · have hany' : xs.any p = false := by simpa using hany
    have hm : fidx p xs = -1 := fidx_miss (fun j hj => by
      rw [List.any_eq_false] at hany'
      simpa using hany' _ (List.getElem_mem hj))
    have hfl : xs.filter (fun x => !p x) = xs := by
      rw [List.filter_eq_self]
      intro x hx
      rw [List.any_eq_false] at hany'
      simpa using hany' x hx
    rw [hm] at HIX
    have HFL := Lib.hid hfl
    clear hany hany' hm hfl hlo
    go_enter Try.func110, Try.ntmps110
    go_wp2_with fail
    refine HIX.out.mono ?_
    rintro e w1 ⟨rfl, hb1⟩
    go_wp2_with fail
    go_ret
    exact ⟨_, rfl, by rw [HFL.out]; exact Kd.R_below HO0.out hb1, Mk.ofBelow hb1, fun b hb => hb⟩
end Go.Proofs.Ytnaefjilcabkoaa
end
section
namespace Go.Proofs.Ytnaefjilcabkoaa
open Go.RowKit Go.Proofs.YtnaefjilcabkoaaW.PrintWords Go.Proofs.YtnaefjilcabkoaaW.PrintLast Go.Proofs.YtnaefjilcabkoaaW.PrintMore
set_option linter.unusedVariables false
/-- Number, captured variables, the world in which these lie, what it computes, and that it does. -/
structure Fv where
  g : Nat
  lb : Array Value
  w0 : World
  f : List Int → Option (List Int)
  eg : ∀ args w, (callFunc g args).run Try.prog w = .ok (.enter g args) w
  ok : ∀ (P1_ : Nat → Prop) (u : Value) (l r : List Int) (wb w : World), Below wb.heap.size wb w → kI.R 3 w wb.heap.size P1_ u l → Below w0.heap.size w0 wb → f l = some r →
    Calls Try.prog g (#[u] ++ lb) w fun e w' => ∃ v0_ : Value, e = .returned v0_ ∧ kI.R 3 w' wb.heap.size (fun k_ => P1_ k_ ∨ w.heap.size ≤ k_) v0_ r ∧ Below wb.heap.size wb w' ∧ Kept w w' (fun k_ => P1_ k_)
end Go.Proofs.Ytnaefjilcabkoaa
namespace Go.Proofs.Ytnaefjilcabkoaa.Q
open Go.RowKit Go.Proofs.YtnaefjilcabkoaaW.PrintWords Go.Proofs.YtnaefjilcabkoaaW.PrintLast Go.Proofs.YtnaefjilcabkoaaW.PrintMore
set_option linter.unusedVariables false
def chg.f (a0 : Fv) (l1 : List Int) : Option (List Int) := a0.f l1
theorem chg.calls (a0 : Fv) (P1_ : Nat → Prop) (u9000_ : Value) (l1 : List Int) (r : List Int) (w0 w : World) (hB : Below w0.heap.size w0 w) (ho1 : Kd.R (Kd.int .i64) 3 w w0.heap.size P1_ u9000_ l1) (hw0 : Below a0.w0.heap.size a0.w0 w0) (h : chg.f a0 l1 = some r) :
    Calls Try.prog a0.g (#[u9000_] ++ a0.lb) w fun e w' => ∃ v0_ : Value, e = .returned v0_ ∧ Kd.R (Kd.int .i64) 3 w' w0.heap.size (fun k_ => (P1_ k_ ∨ w.heap.size ≤ k_)) v0_ r ∧ Below w0.heap.size w0 w' ∧ Kept w w' (fun k_ => P1_ k_) :=
  a0.ok P1_ u9000_ l1 r w0 w hB ho1 hw0 h
section
variable {P : Program} {ops : Array Oper} {Q : Exit → Act → World → Prop}
end
end Go.Proofs.Ytnaefjilcabkoaa.Q
end
section
namespace Go.Proofs.Ytnaefjilcabkoaa
open Go.RowKit Go.Proofs.YtnaefjilcabkoaaW.PrintWords Go.Proofs.YtnaefjilcabkoaaW.PrintLast Go.Proofs.YtnaefjilcabkoaaW.PrintMore
set_option linter.unusedVariables false
set_option linter.unusedSimpArgs false
def laysNm221_ren : Go.Shelf.Ren := ⟨fun | 21 => 113 | 27 => 134 | 28 => 135 | 35 => 152 | 39 => 159 | n => n, fun | 22 => 22 | 3 => 3 | 4 => 4 | 0 => 0 | n => n, fun | n => n⟩
theorem laysNm221 : Go.Proofs.Lays2.n21 Try.prog laysNm221_ren := {
  mixed := by kernel_rfl
  f21 := Try.func113.trans (congrArg some (by kernel_rfl))
  f27 := Try.func134.trans (congrArg some (by kernel_rfl))
  f28 := Try.func135.trans (congrArg some (by kernel_rfl))
  f35 := Try.func152.trans (congrArg some (by kernel_rfl))
  f39 := Try.func159.trans (congrArg some (by kernel_rfl))
  t0 := Try.underlying0
  a0 := Try.isAgg0
  z0 := Try.sizeOf0
  v0 := Try.zeroValue0
  t3 := Try.underlying3
  a3 := Try.isAgg3
  z3 := Try.sizeOf3
  v3 := Try.zeroValue3
  t4 := Try.underlying4
  a4 := Try.isAgg4
  z4 := Try.sizeOf4
  v4 := Try.zeroValue4
  t22 := Try.underlying22
  a22 := Try.isAgg22
  z22 := Try.sizeOf22
  v22 := Try.zeroValue22
  i3 := by kernel_rfl }
def laysNm225_ren : Go.Shelf.Ren := ⟨fun | 25 => 112 | 31 => 132 | 32 => 133 | 37 => 151 | n => n, fun | 22 => 22 | 3 => 3 | 4 => 4 | 40 => 118 | 0 => 0 | n => n, fun | n => n⟩
theorem laysNm225 : Go.Proofs.Lays2.n25 Try.prog laysNm225_ren := {
  mixed := by kernel_rfl
  f25 := Try.func112.trans (congrArg some (by kernel_rfl))
  f31 := Try.func132.trans (congrArg some (by kernel_rfl))
  f32 := Try.func133.trans (congrArg some (by kernel_rfl))
  f37 := Try.func151.trans (congrArg some (by kernel_rfl))
  t0 := Try.underlying0
  a0 := Try.isAgg0
  z0 := Try.sizeOf0
  v0 := Try.zeroValue0
  t3 := Try.underlying3
  a3 := Try.isAgg3
  z3 := Try.sizeOf3
  v3 := Try.zeroValue3
  t4 := Try.underlying4
  a4 := Try.isAgg4
  z4 := Try.sizeOf4
  v4 := Try.zeroValue4
  t22 := Try.underlying22
  a22 := Try.isAgg22
  z22 := Try.sizeOf22
  v22 := Try.zeroValue22
  t40 := Try.underlying118
  a40 := Try.isAgg118
  z40 := Try.sizeOf118
  v40 := Try.zeroValue118 }
theorem below_cells {B g : Nat} {a : World} {w : World} (h : Below B a w) (hg : B ≤ g) : ∀ (vs : List Value) (o : Nat), Below B a (w.setCells g o vs) := by
  intro vs
  induction vs generalizing w with
  | nil => intro o; exact h
  | cons u r ih =>
    intro o
    rw [World.setCells]
    exact ih (h.setCell (p := ⟨g, o, none⟩) hg u) (o + 1)
theorem R_block {W : World} {g n cap B : Nat} {ok : Nat → Prop} {cur : Array Value} {xs : List Int} (hh : W.heap[g]? = some (.cells cur 3 (0, 0))) (hb : B ≤ g) (hok : ok g) (hn : xs.length = n) (h1 : n ≤ cap) (h2 : cap ≤ maxLen) (hs : cur.size = cap) (ht : cur.toList.take n = encI xs) :
    kI.R 3 W B ok (.slice (some ⟨g, 0, none⟩) n cap) xs := by
  subst hn
  refine Kd.R_of_own ⟨by simp [encs], .inr ⟨g, cap, cur, rfl, hb, hh, h1, h2, by rw [hs, Nat.mul_one], by rw [Nat.mul_one]; exact ht⟩⟩ (fun k hk => ?_)
  have : g = k := by simpa [Value.ownBlock] using hk
  exact this ▸ hok
theorem zeroCells_list (k : Nat) : (Builtin.zeroCells (Value.int .i64 0).cells k).toList = List.replicate k (.int .i64 0) := by
  simp only [Builtin.zeroCells, Value.cells]
  apply List.ext_getElem
  · simp
  · intro i h1 h2
    simp [Nat.mod_one]
theorem zeroCells_size (k : Nat) : (Builtin.zeroCells (Value.int .i64 0).cells k).size = k := by
  rw [← Array.length_toList, zeroCells_list, List.length_replicate]
theorem encI_len (a : List Int) : (encI a).length = a.length := by simp [encs]
/-- A row with one number more. -/
def putAt (xs : List Int) (k : Nat) (x : Int) : List Int := xs.take k ++ x :: xs.drop k
theorem encI_putAt (xs : List Int) (k : Nat) (x : Int) : encI (putAt xs k x) = (encI xs).take k ++ Value.int .i64 x :: (encI xs).drop k := by simp [putAt, encs]
theorem putAt_len (xs : List Int) (k : Nat) (x : Int) (hk : k ≤ xs.length) : (putAt xs k x).length = xs.length + 1 := by simp [putAt]; omega
set_option maxHeartbeats 1000000 in
theorem insertI_any (xs : List Int) (x : Int) (k : Nat) (v : Value) (B : Nat) (P1 : Nat → Prop) (w : World) (vb : Nat) (h : kI.R 3 w B P1 v xs) (hk : k ≤ xs.length) (hB : B ≤ w.heap.size) (hx : w.heap[vb]? = some (.cells #[.int .i64 x] 3 (0, 0))) (hne : v.ownBlock ≠ some vb) (hlen : xs.length ≤ 1000000) :
    Calls Try.prog 113 #[v, .int .i64 k, .slice (some ⟨vb, 0, none⟩) 1 1] w (fun e w' => ∃ v', e = .returned v' ∧ kI.R 3 w' B (fun b => P1 b ∨ w.heap.size ≤ b) v' (putAt xs k x) ∧ Mk (obs v) w w') := by
  have hvs : ∀ j u, ([Value.int .i64 x] : List Value)[j]? = some u → w.cell? ⟨vb, 0 + j, none⟩ = some u := by
    intro j u hj
    cases j with
    | zero => cases hj; exact (blk_cell hx 0).trans rfl
    | succ j => simp at hj
  have h1v : ∀ u ∈ ([Value.int .i64 x] : List Value), u.oneCell' = true := by simp [Value.oneCell']
  have h1c : ∀ u ∈ encI xs, u.oneCell' = true := by
    intro u hu
    obtain ⟨y, _, rfl⟩ := List.mem_map.1 hu
    rfl
  have hmx : maxLen = 9223372036854775807 := rfl
  have ho := Kd.own_of_R h
  rcases ho with ⟨_, ⟨rfl, h0⟩ | ⟨g, cap, cur, rfl, hg, hh, hnc, hcm, hcs, htake⟩⟩
  · have hxs : xs = [] := List.eq_nil_of_length_eq_zero h0
    subst hxs
    have hk0 : k = 0 := by simpa using hk
    subst hk0
    refine (Any2.slices_Insert_int_end_grow laysNm221 none 0 0 vb 0 1 1 [] [.int .i64 x] w (by omega) (Nat.le_refl _) (by omega) (by omega) rfl rfl (fun _ => rfl) (fun a ha => by cases ha) hvs h1v).mono ?_
    rintro e w' ⟨he, hw⟩
    rw [show laysNm221_ren.t 3 = 3 from rfl] at he hw
    subst he
    subst hw
    refine ⟨_, rfl, ?_, Mk.ofBelow (((Below.refl _ _).drew).alloc (by simp) _)⟩
    refine R_block (g := w.heap.size) (cur := _) (by have := blk_new w.drew (.cells ((([] : List Value) ++ [Value.int .i64 x]).toArray ++ Builtin.zeroCells (Value.int .i64 0).cells (grownCap w (0 + 1) 0 3 - (0 + 1))) 3); simpa using this) hB (.inr (Nat.le_refl _)) (by simp [putAt]) (grownCap_ge _ _ _ _) (grownCap_le_maxLen _ _ _ _ (by rw [hmx]; omega)) ?_ ?_
    · have := grownCap_ge w (0 + 1) 0 3
      rw [Array.size_append, zeroCells_size]
      simp at this ⊢
      omega
    · simp [putAt, encs]
  · rw [Nat.mul_one] at hcs htake
    have htake : cur.toList.take xs.length = encI xs := htake
    have hgw : g < w.heap.size := blk_lt hh
    have ht0 : (encI xs).take xs.length = encI xs := List.take_of_length_le (by simp [encs])
    have hd0 : (encI xs).drop xs.length = [] := List.drop_eq_nil_of_le (by simp [encs])
    have hPg : P1 g := h.1 g rfl
    have hgv : vb ≠ g := fun e => hne (by rw [e]; rfl)
    have hcell : ∀ j, j < cap → w.cell? ⟨g, 0 + j, none⟩ = some (cur[j]?.getD (.int .i64 0)) := by
      intro j hj
      rw [Nat.zero_add]
      refine (blk_cell hh j).trans ?_
      rw [Array.getElem?_eq_getElem (by omega)]
      rfl
    have hcs1 : ∀ j u, (encI xs)[j]? = some u → w.cell? ⟨g, 0 + j, none⟩ = some u := by
      intro j u hj
      have hjl : j < xs.length := by
        have := (List.getElem?_eq_some_iff.1 hj).1
        rwa [encI_len] at this
      rw [← htake, List.getElem?_take_of_lt hjl] at hj
      rw [Nat.zero_add]
      refine (blk_cell hh j).trans ?_
      rw [← hj]
      simp
    have hfz : ∀ j, w.frozen? ⟨g, 0 + j, none⟩ = false := fun j => blk_frozen hh _
    by_cases hkn : k = xs.length
    · subst hkn
      by_cases hroom : xs.length + 1 ≤ cap
      · refine (Any2.slices_Insert_int_end_room laysNm221 g 0 xs.length cap vb 0 1 1 [.int .i64 x] w (by omega) hroom (by rw [hmx] at hcm; omega) rfl (fun j hj => by rw [show 0 + xs.length + j = 0 + (xs.length + j) from by omega, hcell _ (by omega)]; rfl) (fun j _ => by rw [show 0 + xs.length + j = 0 + (xs.length + j) from by omega]; exact hfz _) hvs h1v).mono ?_
        rintro e w' ⟨rfl, rfl⟩
        obtain ⟨cur', hc1, hc2, hc3⟩ := setCells_row (g := g) (e := 3) [.int .i64 x] (0 + xs.length) w cur hh (by simp; omega)
        refine ⟨_, rfl, R_block hc1 hg (.inl hPg) (putAt_len _ _ _ (Nat.le_refl _)) hroom hcm (by rw [hc2, hcs]) ?_, Mk.setCells (by simp [obs, Value.ownBlock]) _ _ _⟩
        rw [hc3, Nat.zero_add, htake, encI_putAt, ht0, hd0]
        rw [List.take_append_of_le_length (by simp [encs]), List.take_of_length_le (by simp [encs])]
      · refine (Any2.slices_Insert_int_end_grow laysNm221 (some ⟨g, 0, none⟩) xs.length cap vb 0 1 1 (encI xs) [.int .i64 x] w (by omega) hnc (by omega) (by omega) (encI_len _) rfl (fun ha => by cases ha) (fun a ha j u hj => by cases ha; rw [Addr.add_lit]; exact hcs1 j u hj) hvs h1v).mono ?_
        rintro e w' ⟨he, hw⟩
        rw [show laysNm221_ren.t 3 = 3 from rfl] at he hw
        subst he
        subst hw
        refine ⟨_, rfl, ?_, Mk.ofBelow (((Below.refl _ _).drew).alloc (by simp) _)⟩
        refine R_block (g := w.heap.size) (cur := _) (by have := blk_new w.drew (.cells ((encI xs ++ [Value.int .i64 x]).toArray ++ Builtin.zeroCells (Value.int .i64 0).cells (grownCap w (xs.length + 1) cap 3 - (xs.length + 1))) 3); simpa using this) hB (.inr (Nat.le_refl _)) (putAt_len _ _ _ (Nat.le_refl _)) (grownCap_ge _ _ _ _) (grownCap_le_maxLen _ _ _ _ (by rw [hmx]; omega)) ?_ ?_
        · have := grownCap_ge w (xs.length + 1) cap 3
          rw [Array.size_append, zeroCells_size]
          simp [encs]
          omega
        · rw [Array.toList_append, encI_putAt, ht0, hd0]
          rw [List.take_append_of_le_length (by simp [encs]), List.take_of_length_le (by simp [encs])]
    · have hi : k < xs.length := by omega
      by_cases hroom : xs.length + 1 ≤ cap
      · refine (Any2.slices_Insert_int_shift laysNm221 g 0 xs.length cap k vb 0 1 1 (encI xs) [.int .i64 x] w hi (by omega) hroom (by rw [hmx] at hcm; omega) hgv (encI_len _) rfl hcs1 (fun j hj => by rw [hcell _ (by omega)]; rfl) (fun j _ => hfz _) hvs h1c h1v 3 3 1 cap (by simp [World.shape?, hx]) (by simp [World.shape?, hh, hcs]) (by omega) (blk_frozen hx _) (blk_frozen hx _)).mono ?_
        rintro e w' ⟨rfl, rfl⟩
        have hhd : w.drew.heap[g]? = some (.cells cur 3 (0, 0)) := blk_drew hh
        obtain ⟨cur1, hc1, hc2, hc3⟩ := setCells_row (g := g) (e := 3) ((encI xs).drop k) (0 + (k + 1)) w.drew cur hhd (by simp [encs]; omega)
        obtain ⟨cur2, hd1, hd2, hd3⟩ := setCells_row (g := g) (e := 3) [.int .i64 x] (0 + k) _ cur1 hc1 (by simp; omega)
        refine ⟨_, rfl, R_block hd1 hg (.inl hPg) (putAt_len _ _ _ hk) hroom hcm (by rw [hd2, hc2, hcs]) ?_, ((Mk.ofBelow (Below.refl _ _).drew).trans (Mk.setCells (by simp [obs, Value.ownBlock]) _ _ _)).trans (Mk.setCells (by simp [obs, Value.ownBlock]) _ _ _)⟩
        rw [hd3, hc3, encI_putAt]
        simp only [Nat.zero_add]
        have hl : cur.toList.length = cap := by rw [Array.length_toList, hcs]
        have e1 : ((cur.toList.take (k + 1) ++ (encI xs).drop k) ++ cur.toList.drop (k + 1 + ((encI xs).drop k).length)).take k = (encI xs).take k := by
          rw [List.append_assoc, List.take_append_of_le_length (by rw [List.length_take]; omega), List.take_take, ← htake, List.take_take]
          congr 1
          omega
        have e2 : ((cur.toList.take (k + 1) ++ (encI xs).drop k) ++ cur.toList.drop (k + 1 + ((encI xs).drop k).length)).drop (k + [Value.int .i64 x].length) = (encI xs).drop k ++ cur.toList.drop (k + 1 + ((encI xs).drop k).length) := by
          rw [List.append_assoc, List.drop_append_of_le_length (by simp; omega)]
          rw [List.drop_eq_nil_of_le (by simp; omega)]
          rfl
        rw [e1, e2]
        have hkl : ((encI xs).take k).length = k := by simp [encs]; omega
        rw [List.append_assoc, List.singleton_append, ← List.cons_append, ← List.append_assoc, List.take_append_of_le_length (by simp [encs]; omega), List.take_of_length_le (by simp [encs]; omega)]
      · refine (Any2.slices_Insert_int_grow laysNm221 g 0 xs.length cap k vb 0 1 1 (encI xs) [.int .i64 x] w hi (by omega) hnc (by omega) (by omega) (encI_len _) rfl hcs1 hvs h1c h1v).mono ?_
        rintro e w' ⟨he, hw⟩
        rw [show laysNm221_ren.t 3 = 3 from rfl] at he hw
        subst he
        subst hw
        have hcap := grownCap_ge w (xs.length + 1) cap 3
        have h0 := blk_new w (.cells (((encI xs).take k).toArray ++ Builtin.zeroCells (Value.int .i64 0).cells (xs.length + 1 - k) ++ Builtin.zeroCells (Value.int .i64 0).cells (grownCap w (xs.length + 1) cap 3 - (xs.length + 1))) 3)
        have hsz : (((encI xs).take k).toArray ++ Builtin.zeroCells (Value.int .i64 0).cells (xs.length + 1 - k) ++ Builtin.zeroCells (Value.int .i64 0).cells (grownCap w (xs.length + 1) cap 3 - (xs.length + 1))).size = grownCap w (xs.length + 1) cap 3 := by
          rw [Array.size_append, Array.size_append, zeroCells_size, zeroCells_size]
          simp [encs]
          omega
        obtain ⟨cur1, hc1, hc2, hc3⟩ := setCells_row (g := w.heap.size) (e := 3) [.int .i64 x] k _ _ (blk_drew h0) (by rw [hsz]; simp; omega)
        obtain ⟨cur2, hd1, hd2, hd3⟩ := setCells_row (g := w.heap.size) (e := 3) ((encI xs).drop k) (k + 1) _ _ (blk_drew hc1) (by rw [hc2, hsz]; simp [encs]; omega)
        refine ⟨_, rfl, R_block hd1 hB (.inr (Nat.le_refl _)) (putAt_len _ _ _ hk) hcap (grownCap_le_maxLen _ _ _ _ (by rw [hmx]; omega)) (by rw [hd2, hc2, hsz]) ?_, Mk.ofBelow ?_⟩
        · rw [hd3, hc3, encI_putAt, Array.toList_append, Array.toList_append, zeroCells_list, zeroCells_list, List.toList_toArray]
          have hkl : ((encI xs).take k).length = k := by simp [encs]; omega
          generalize hA : (encI xs).take k = A at hkl ⊢
          generalize hD : (encI xs).drop k = D
          have hDl : D.length = xs.length - k := by rw [← hD]; simp [encs]
          have e1 : (A ++ List.replicate (xs.length + 1 - k) (Value.int .i64 0) ++ List.replicate (grownCap w (xs.length + 1) cap 3 - (xs.length + 1)) (Value.int .i64 0)).take k = A := by
            rw [List.append_assoc, List.take_append_of_le_length (by omega), List.take_of_length_le (by omega)]
          rw [e1]
          have e2 : ((A ++ [Value.int .i64 x]) ++ List.drop (k + [Value.int .i64 x].length) (A ++ List.replicate (xs.length + 1 - k) (Value.int .i64 0) ++ List.replicate (grownCap w (xs.length + 1) cap 3 - (xs.length + 1)) (Value.int .i64 0))).take (k + 1) = A ++ [Value.int .i64 x] := by
            rw [List.take_append_of_le_length (by simp; omega), List.take_of_length_le (by simp; omega)]
          rw [e2, List.append_assoc A, List.singleton_append, List.append_assoc, List.cons_append]
          rw [show ∀ (Z : List Value), A ++ Value.int .i64 x :: (D ++ Z) = (A ++ Value.int .i64 x :: D) ++ Z from fun Z => by simp]
          rw [List.take_append_of_le_length (by simp; omega), List.take_of_length_le (by simp; omega)]
        · have hb0 : Below w.heap.size w (w.alloc (.cells (((encI xs).take k).toArray ++ Builtin.zeroCells (Value.int .i64 0).cells (xs.length + 1 - k) ++ Builtin.zeroCells (Value.int .i64 0).cells (grownCap w (xs.length + 1) cap 3 - (xs.length + 1))) 3)) := below_new _ _
          exact below_cells (below_cells hb0.drew (Nat.le_refl _) _ _).drew (Nat.le_refl _) _ _
/-- A set with a number. -/
def putS (l : List Int) (x : Int) : List Int := if x ∈ l then l else putAt l (l.countP (· < x)) x
set_option maxHeartbeats 1000000 in
theorem bsearch_any (xs : List Int) (x : Int) (v : Value) (B : Nat) (P1 : Nat → Prop) (w : World) (h : kI.R 3 w B P1 v xs) (hs : xs.Pairwise (· < ·)) (hlen : xs.length ≤ 1000000) :
    Calls Try.prog 112 #[v, .int .i64 x] w (fun e w' => e = .returned (.tuple #[.int .i64 (xs.countP (· < x) : Nat), .bool (decide (x ∈ xs))]) ∧ Below w.heap.size w w') := by
  have ho := Kd.own_of_R h
  rcases ho with ⟨_, ⟨rfl, h0⟩ | ⟨g, cap, cur, rfl, hg, hh, hnc, hcm, hcs, htake⟩⟩
  · have hxs : xs = [] := List.eq_nil_of_length_eq_zero h0
    subst hxs
    refine (Any.slices_BinarySearch_int_empty laysNm225 none 0 x w).mono ?_
    rintro e w' ⟨rfl, rfl⟩
    exact ⟨by simp, Below.refl _ _⟩
  · rw [Nat.mul_one] at htake
    refine (Any.slices_BinarySearch_int laysNm225 g 0 xs.length cap xs x w (Nat.le_refl _) (by omega) (fun j hj => ?_) (by rw [List.take_length]; exact hs.imp (fun h => Int.le_of_lt h))).mono ?_
    · rw [Nat.zero_add]
      have h1 := congrArg (fun l => l[j]?) htake
      simp only [List.getElem?_take_of_lt hj] at h1
      refine (blk_cell hh j).trans ?_
      rw [← Array.getElem?_toList, h1]
      simp [encs, List.getD_eq_getElem?_getD, List.getElem?_eq_getElem hj]
    · rintro e w' ⟨rfl, q, rfl⟩
      refine ⟨by rw [List.take_length, List.contains_eq_mem], pw_below_drewN (Below.refl _ _) _⟩
set_option maxHeartbeats 1000000 in
theorem withScope_any (xs : List Int) (x : Int) (v : Value) (B : Nat) (P1 : Nat → Prop) (w : World) (h : kI.R 3 w B P1 v xs) (hB : B ≤ w.heap.size) (hs : xs.Pairwise (· < ·)) (hlen : xs.length ≤ 1000000) :
    Calls Try.prog 71 #[v, .int .i64 x] w (fun e w' => ∃ v', e = .returned v' ∧ kI.R 3 w' B (fun b => P1 b ∨ w.heap.size ≤ b) v' (putS xs x) ∧ Mk (obs v) w w') := by
  have HC := Lib.hid (bsearch_any xs x v B P1 w h hs hlen)
  have HR := Aside0.mk h
  obtain ⟨A, c, rfl⟩ := Kd.R_slice h
  have hcl := List.countP_le_length (p := fun y => decide (y < x)) (l := xs)
  clear h hs
  by_cases hx : x ∈ xs
  · have HX := Lib.hid hx
    rw [decide_eq_true hx] at HC
    clear hx
    go_enter Try.func71, Try.ntmps71
    go_wp2_with fail
    refine HC.out.mono ?_
    rintro e w1 ⟨rfl, hb1⟩
    go_wp2_with fail
    go_ret
    refine ⟨_, rfl, ?_, Mk.ofBelow hb1⟩
    rw [putS, if_pos HX.out]
    exact Kd.R_mono (Kd.R_below HR.out hb1) (fun _ h => .inl h)
  · have HX := Lib.hid hx
    rw [decide_eq_false hx] at HC
    clear hx
    go_enter Try.func71, Try.ntmps71
    go_wp2_with fail
    refine HC.out.mono ?_
    rintro e w1 ⟨rfl, hb1⟩
    have HB1 := Lib.hid hb1
    have HL := Lib.hid (Kd.R_lt HR.out)
    clear hb1
    go_wp2_with fail
    refine (insertI_any xs x (xs.countP (· < x)) (.slice A xs.length c) B P1 _ w1.heap.size (Kd.R_alloc (Kd.R_below HR.out HB1.out) _) hcl (by have := HB1.out.size; simp; omega) (by simpa using blk_new w1 (.cells #[.int .i64 x] 3)) (fun e => by have := HL.out _ e; have := HB1.out.size; omega) hlen).mono ?_
    rintro e w2 ⟨v', rfl, hR, hM⟩
    have HF := Lib.hid (And.intro hR hM)
    clear hR hM
    go_wp2_with fail
    go_ret
    refine ⟨_, rfl, ?_, (Mk.ofBelow (below_step HB1.out (below_new _ _))).trans HF.out.2⟩
    rw [putS, if_neg HX.out]
    refine Kd.R_mono HF.out.1 (fun b hb => hb.imp id (fun h => ?_))
    have := HB1.out.size
    simp at h
    omega
end Go.Proofs.Ytnaefjilcabkoaa
end
section
namespace Go.Proofs.Ytnaefjilcabkoaa
open Go.RowKit Go.Proofs.YtnaefjilcabkoaaW.PrintWords
set_option linter.unusedVariables false
theorem Ev.some {α : Type} {o : Option α} {r : α} (h : o = some r) : Ev (fun _ => o) r := ⟨0, fun _ _ => h⟩
theorem Ev.pos {α : Type} {c : Prop} [Decidable c] {a b : Nat → Option α} {r : α} (h : c) (e : Ev a r) : Ev (fun k => if c then a k else b k) r := by
  simp only [if_pos h]; exact e
theorem Ev.neg {α : Type} {c : Prop} [Decidable c] {a b : Nat → Option α} {r : α} (h : ¬ c) (e : Ev b r) : Ev (fun k => if c then a k else b k) r := by
  simp only [if_neg h]; exact e
theorem ev_loop {R S : Type} {L : Nat → S → Option R} (Inv : Nat → S → Prop) (n : Nat) (Post : R → Prop)
    (hs : ∀ i s, i < n → Inv i s → ∃ s', Inv (i + 1) s' ∧ ∀ r, Ev (fun k => L k s') r → Ev (fun k => L k s) r)
    (he : ∀ s, Inv n s → ∃ r, Post r ∧ Ev (fun k => L k s) r) : ∀ s, Inv 0 s → ∃ r, Post r ∧ Ev (fun k => L k s) r := by
  have key : ∀ m i s, i + m = n → Inv i s → ∃ r, Post r ∧ Ev (fun k => L k s) r := by
    intro m
    induction m with
    | zero => intro i s hi h; obtain rfl : i = n := by omega
              exact he s h
    | succ m ih =>
      intro i s hi h
      obtain ⟨s', h', hk⟩ := hs i s (by omega) h
      obtain ⟨r, hp, hr⟩ := ih (i + 1) s' (by omega) h'
      exact ⟨r, hp, hk r hr⟩
  exact fun s h => key n 0 s (by omega) h
theorem wr1 (i : Nat) (h : i < 4611686018427387904) : wrap64 ((i : Int) + 1) = ((i + 1 : Nat) : Int) := by
  rw [Go.IntWalk.wrap64_in _ ⟨by omega, by omega⟩]; omega
theorem takeS {α : Type} {l : List α} {i : Nat} (h : i < l.length) : l.take i ++ [l[i]] = l.take (i + 1) := (List.take_succ_eq_append_getElem h).symm
end Go.Proofs.Ytnaefjilcabkoaa
end
section
namespace Go.Proofs.Ytnaefjilcabkoaa
open Go.RowKit Go.Proofs.YtnaefjilcabkoaaW.PrintWords Go.Proofs.YtnaefjilcabkoaaW.PrintLast Go.Proofs.YtnaefjilcabkoaaW.PrintMore
set_option linter.unusedVariables false
set_option linter.unusedSimpArgs false
noncomputable def pB (p : Prop) : Bool := @decide p (Classical.propDecidable _)
theorem pB_iff {p : Prop} : pB p = true ↔ p := by unfold pB; exact @decide_eq_true_iff _ (Classical.propDecidable _)
theorem pB_yes {p : Prop} (h : p) : true = pB p := (pB_iff.2 h).symm
theorem pB_no {p : Prop} (h : ¬ p) : false = pB p := by
  cases e : pB p with
  | true => exact absurd (pB_iff.1 e) h
  | false => rfl
theorem pB_of {b : Bool} {p : Prop} (h : b = true ↔ p) : b = pB p := by
  cases b with
  | true => exact pB_yes (h.1 rfl)
  | false => exact pB_no (fun hp => by have := h.2 hp; cases this)
def ScAt (xs : List Int) (i : Nat) : Prop := ∀ h : i < xs.length, 1 ≤ xs[i] ∧ xs[i] ≤ 99 ∧ ∀ (j : Nat) (hj : j < xs.length), j + 1 = i → xs[j] < xs[i]
def ScOk (xs : List Int) : Prop := xs.length ≤ 24 ∧ ∀ i, ScAt xs i
set_option maxHeartbeats 2000000 in
theorem l1Scopes_any (xs : List Int) (A : Option Addr) (c : Nat) (w : World) (hr : kI.C w A xs.length xs) (hc : xs.length ≤ c) :
    Calls Try.prog 88 #[.slice A xs.length c] w (Ret w (.bool (pB (ScOk xs)))) := by
  have hmax := hr.2.1
  go_enter Try.func88, Try.ntmps88
  go_wp2_with fail
  go_loopg [3] xs.length (fun kq v3 w' => ∃ i : Nat, i ≤ xs.length ∧ xs.length - i ≤ kq ∧ v3 = .int .i64 i ∧ Aside0 (i ≤ 25) ∧ Aside0 (∀ j, j < i → ScAt xs j) ∧ Aside0 (Below w.heap.size w w'))
  case atStart => exact ⟨0, Nat.zero_le _, by omega, rfl, ⟨by omega⟩, ⟨fun j h => absurd h (by omega)⟩, ⟨Below.refl _ _⟩⟩
  case round =>
    obtain ⟨i, hi, hg, rfl, H25, HN, HW⟩ := hrel
    by_cases hlt : i < xs.length
    · have t1 : decide ((i : Int) < (xs.length : Int)) = true := decide_eq_true (by omega)
      by_cases h24 : i ≤ 24
      · have t2 : decide ((i : Int) ≤ 24) = true := decide_eq_true (by omega)
        obtain ⟨ad, e, hcell⟩ := int_at (Kd.C_below hr HW.out) i hlt
        subst e
        have p1 : (0 : Int) ≤ (i : Int) := by omega
        have p2 : (i : Int) < (xs.length : Int) := by omega
        by_cases ha : xs[i] < 1
        · have a1 : decide (xs[i] < 1) = true := decide_eq_true ha
          have HA := Lib.hid ha
          clear ha
          go_wp2_with fail
          go_quiet (fail)
          go_wp2_with fail
          go_ret
          refine ⟨ret_b (pB_no (fun h => ?_)), pw_below_drewN HW.out _⟩
          have := (h.2 i hlt).1
          have := HA.out
          omega
        · have a1 : decide (xs[i] < 1) = false := decide_eq_false ha
          have HA := Lib.hid ha
          clear ha
          by_cases hb : xs[i] > 99
          · have a2 : decide (xs[i] > 99) = true := decide_eq_true hb
            have a3 : decide (99 < xs[i]) = true := decide_eq_true hb
            have HB := Lib.hid hb
            clear hb
            go_wp2_with fail
            go_quiet (fail)
            go_wp2_with fail
            go_ret
            refine ⟨ret_b (pB_no (fun h => ?_)), pw_below_drewN HW.out _⟩
            have := (h.2 i hlt).2.1
            have := HB.out
            omega
          · have a2 : decide (xs[i] > 99) = false := decide_eq_false hb
            have a3 : decide (99 < xs[i]) = false := decide_eq_false hb
            have HB := Lib.hid hb
            clear hb
            by_cases hz : i = 0
            · have z1 : decide ((i : Int) > 0) = false := decide_eq_false (by omega)
              have z2 : decide ((0 : Int) < (i : Int)) = false := decide_eq_false (by omega)
              have z3 : decide (0 < i) = false := decide_eq_false (by omega)
              have HZ := Lib.hid hz
              clear hz
              go_wp2_with fail
              go_quiet (fail)
              go_wp2_with fail
              go_roundg (xs.length - (i + 1))
              case measure => omega
              case rel =>
                refine ⟨i + 1, by omega, Nat.le_refl _, by go_num, ⟨by omega⟩, ⟨fun j hj => ?_⟩, ⟨pw_below_drewN HW.out _⟩⟩
                have h1 := HA.out
                have h2 := HB.out
                have h3 := HZ.out
                obtain rfl : j = i := by omega
                exact fun _ => ⟨by omega, by omega, fun j hj he => absurd he (by omega)⟩
            · obtain ⟨j, hji⟩ : ∃ j, i = j + 1 := ⟨i - 1, by omega⟩
              have hj : j < xs.length := by omega
              obtain ⟨ad3, e3, hcell3⟩ := int_at (Kd.C_below hr HW.out) j hj
              obtain rfl : ad = ad3 := by cases e3; rfl
              have z1 : decide ((i : Int) > 0) = true := decide_eq_true (by omega)
              have z2 : decide ((0 : Int) < (i : Int)) = true := decide_eq_true (by omega)
              have z3 : decide (0 < i) = true := decide_eq_true (by omega)
              have u1 : IntKind.i64.wrap ((i : Int) - 1) = (j : Int) := by rw [show ((i : Int) - 1) = (j : Int) from by omega]; exact IntWalk.i64_in _ (by omega)
              have u2 : (0 : Int) ≤ (j : Int) := by omega
              have u3 : (j : Int) < (xs.length : Int) := by omega
              have HJ := Lib.hid hji
              by_cases hle : xs[i] ≤ xs[j]
              · have c1 : decide (xs[i] ≤ xs[j]) = true := decide_eq_true hle
                have HL := Lib.hid hle
                clear hle hz hji
                go_wp2_with fail
                go_quiet (fail)
                go_wp2_with fail
                go_ret
                refine ⟨ret_b (pB_no (fun h => ?_)), pw_below_drewN HW.out _⟩
                have := (h.2 i hlt).2.2 j hj HJ.out.symm
                have := HL.out
                omega
              · have c1 : decide (xs[i] ≤ xs[j]) = false := decide_eq_false hle
                have HL := Lib.hid hle
                clear hle hz hji
                go_wp2_with fail
                go_quiet (fail)
                go_wp2_with fail
                go_roundg (xs.length - (i + 1))
                case measure => omega
                case rel =>
                  refine ⟨i + 1, by omega, Nat.le_refl _, by go_num, ⟨by omega⟩, ⟨fun q hq => ?_⟩, ⟨pw_below_drewN HW.out _⟩⟩
                  rcases Nat.lt_or_ge q i with h | h
                  · exact HN.out q h
                  · obtain rfl : q = i := by omega
                    have h1 := HA.out
                    have h2 := HB.out
                    have h3 := HL.out
                    have h4 := HJ.out
                    refine fun _ => ⟨by omega, by omega, fun p hp he => ?_⟩
                    obtain rfl : p = j := by omega
                    omega
      · have t2 : decide ((i : Int) ≤ 24) = false := decide_eq_false (by omega)
        have t3 : decide ((xs.length : Int) ≤ 24) = false := decide_eq_false (by omega)
        go_wp2_with fail
        go_ret
        refine ⟨ret_b (pB_no (fun h => ?_)), HW.out⟩
        have := h.1
        omega
    · obtain rfl : i = xs.length := by omega
      have t1 : decide ((xs.length : Int) < (xs.length : Int)) = false := decide_eq_false (by omega)
      by_cases h24 : xs.length ≤ 24
      · have t3 : decide ((xs.length : Int) ≤ 24) = true := decide_eq_true (by omega)
        go_wp2_with fail
        go_ret
        exact ⟨ret_b (pB_yes ⟨h24, fun i h => HN.out i h h⟩), HW.out⟩
      · have t3 : decide ((xs.length : Int) ≤ 24) = false := decide_eq_false (by omega)
        go_wp2_with fail
        go_ret
        exact ⟨ret_b (pB_no (fun h => h24 h.1)), HW.out⟩
set_option maxHeartbeats 2000000 in
theorem scopesOk_any (xs : List Int) (A : Option Addr) (c : Nat) (w : World) (hr : kI.C w A xs.length xs) (hc : xs.length ≤ c) :
    Calls Try.prog 92 #[.slice A xs.length c] w (Ret w (.bool (pB (ScOk xs)))) := by
  have hmax := hr.2.1
  go_enter Try.func92, Try.ntmps92
  go_wp2_with fail
  go_loopg [3, 4, 7] xs.length (fun kq v3 v4 v7 w' => ∃ i : Nat, i ≤ xs.length ∧ xs.length - i ≤ kq ∧ v7 = .int .i64 i ∧ Aside0 (∀ j, j < i → ScAt xs j) ∧ Aside0 (Below w.heap.size w w'))
  case atStart => exact ⟨0, Nat.zero_le _, by omega, rfl, ⟨fun j h => absurd h (by omega)⟩, ⟨Below.refl _ _⟩⟩
  case round =>
    obtain ⟨i, hi, hg, rfl, HN, HW⟩ := hrel
    by_cases hlt : i < xs.length
    · obtain ⟨ad, e, hcell⟩ := int_at (Kd.C_below hr HW.out) i hlt
      subst e
      have HC := Lib.hid (within_any xs[i] 1 99 wr)
      go_wp2_with fail
      refine HC.out.mono ?_
      rintro e w1 ⟨rfl, hb1⟩
      have hW1 := below_step HW.out hb1
      by_cases ha : 1 ≤ xs[i] ∧ xs[i] ≤ 99
      · rw [decide_eq_true ha]
        have HA := Lib.hid ha
        clear ha
        by_cases hz : i = 0
        · have z1 : decide ((i : Int) > 0) = false := decide_eq_false (by omega)
          have z2 : decide ((0 : Int) < (i : Int)) = false := decide_eq_false (by omega)
          have z3 : decide (0 < i) = false := decide_eq_false (by omega)
          have HZ := Lib.hid hz
          have HW1 := Lib.hid hW1
          clear hz hW1 hb1
          go_wp2_with fail
          go_roundg (xs.length - (i + 1))
          case measure => omega
          case rel =>
            refine ⟨i + 1, by omega, Nat.le_refl _, by go_num, ⟨fun q hq => ?_⟩, ⟨HW1.out⟩⟩
            have h1 := HA.out
            have h3 := HZ.out
            obtain rfl : q = i := by omega
            exact fun _ => ⟨h1.1, h1.2, fun j hj he => absurd he (by omega)⟩
        · obtain ⟨j, hji⟩ : ∃ j, i = j + 1 := ⟨i - 1, by omega⟩
          have hj : j < xs.length := by omega
          obtain ⟨ad3, e3, hcell3⟩ := int_at (Kd.C_below hr hW1) j hj
          obtain rfl : ad = ad3 := by cases e3; rfl
          have z1 : decide ((i : Int) > 0) = true := decide_eq_true (by omega)
          have z2 : decide ((0 : Int) < (i : Int)) = true := decide_eq_true (by omega)
          have z3 : decide (0 < i) = true := decide_eq_true (by omega)
          have u1 : IntKind.i64.wrap ((i : Int) - 1) = (j : Int) := by rw [show ((i : Int) - 1) = (j : Int) from by omega]; exact IntWalk.i64_in _ (by omega)
          have u2 : (0 : Int) ≤ (j : Int) := by omega
          have u3 : (j : Int) < (xs.length : Int) := by omega
          have u4 : (i : Int) - 1 = (j : Int) := by omega
          have HJ := Lib.hid hji
          have HW1 := Lib.hid hW1
          by_cases hle : xs[i] ≤ xs[j]
          · have c1 : decide (xs[j] ≥ xs[i]) = true := decide_eq_true hle
            have c2 : decide (xs[i] ≤ xs[j]) = true := decide_eq_true hle
            have HL := Lib.hid hle
            clear hle hz hji hW1 hb1
            go_wp2_with fail
            go_ret
            refine ⟨ret_b (pB_no (fun h => ?_)), HW1.out⟩
            have := (h.2 i hlt).2.2 j hj HJ.out.symm
            have := HL.out
            omega
          · have c1 : decide (xs[j] ≥ xs[i]) = false := decide_eq_false hle
            have c2 : decide (xs[i] ≤ xs[j]) = false := decide_eq_false hle
            have HL := Lib.hid hle
            clear hle hz hji hW1 hb1
            go_wp2_with fail
            go_roundg (xs.length - (i + 1))
            case measure => omega
            case rel =>
              refine ⟨i + 1, by omega, Nat.le_refl _, by go_num, ⟨fun q hq => ?_⟩, ⟨HW1.out⟩⟩
              rcases Nat.lt_or_ge q i with h | h
              · exact HN.out q h
              · obtain rfl : q = i := by omega
                have h1 := HA.out
                have h3 := HL.out
                have h4 := HJ.out
                refine fun _ => ⟨h1.1, h1.2, fun p hp he => ?_⟩
                obtain rfl : p = j := by omega
                omega
      · rw [decide_eq_false ha]
        have HA := Lib.hid ha
        have HW1 := Lib.hid hW1
        clear ha hW1 hb1
        go_wp2_with fail
        go_ret
        exact ⟨ret_b (pB_no (fun h => HA.out ⟨(h.2 i hlt).1, (h.2 i hlt).2.1⟩)), HW1.out⟩
    · obtain rfl : i = xs.length := by omega
      by_cases h24 : xs.length ≤ 24
      · have t3 : decide ((xs.length : Int) ≤ 24) = true := decide_eq_true (by omega)
        go_wp2_with fail
        go_ret
        exact ⟨ret_b (pB_yes ⟨h24, fun i h => HN.out i h h⟩), HW.out⟩
      · have t3 : decide ((xs.length : Int) ≤ 24) = false := decide_eq_false (by omega)
        go_wp2_with fail
        go_ret
        exact ⟨ret_b (pB_no (fun h => h24 h.1)), HW.out⟩
end Go.Proofs.Ytnaefjilcabkoaa
end
section
namespace Go.Proofs.Ytnaefjilcabkoaa
open Go.RowKit Go.Proofs.YtnaefjilcabkoaaW.PrintWords Go.Proofs.YtnaefjilcabkoaaW.PrintLast Go.Proofs.YtnaefjilcabkoaaW.PrintMore
set_option linter.unusedVariables false
set_option linter.unusedSimpArgs false
set_option maxRecDepth 100000

def letterB (c : Int) : Bool := (decide (97 ≤ c) && decide (c ≤ 122)) || c == 42 || c == 63 || c == 61 || c == 43 || c == 60
def digitB (c : Int) : Bool := (decide (48 ≤ c) && decide (c ≤ 57)) || c == 45
theorem l1Letter_any (c : Int) (first : Bool) (w : World) (h0 : 0 ≤ c) (h1 : c < 256) : Calls Try.prog 125 #[.int .u8 c, .bool first] w (Ret w (.bool (letterB c || (!first && digitB c)))) := by
  go_enter Try.func125, Try.ntmps125
  go_wp2
  all_goals
    go_ret
    refine ⟨ret_b ?_, Below.refl _ _⟩
    first
    | rfl
    | (rw [Bool.eq_iff_iff]; simp_all [letterB, digitB]; done)
    | (rw [Bool.eq_iff_iff]; simp_all [letterB, digitB]; omega)
    | (cases first <;> rw [Bool.eq_iff_iff] <;> simp_all [letterB, digitB] <;> omega)
/-- What a valid name is. -/
def NmOk (s : ByteArray) : Prop := s.toList = [46, 46, 46] ∨ s.toList = [95] ∨ (1 ≤ s.size ∧ s.size ≤ 12 ∧ ∀ i (h : i < s.size), (letterB s[i].toNat || (!((i : Int) == 0) && digitB s[i].toNat)) = true)
noncomputable def nmB (s : ByteArray) : Bool := @decide (NmOk s) (Classical.propDecidable _)
theorem nmB_iff (s : ByteArray) : nmB s = true ↔ NmOk s := by unfold nmB; exact @decide_eq_true_iff _ (Classical.propDecidable _)
theorem nmB_t {s : ByteArray} (h : NmOk s) : true = nmB s := ((nmB_iff s).2 h).symm
theorem nmB_f {s : ByteArray} (h : ¬ NmOk s) : false = nmB s := by
  cases hb : nmB s with
  | true => exact absurd ((nmB_iff s).1 hb) h
  | false => rfl
theorem byte_lt (s : ByteArray) (i : Nat) (h : i < s.size) : 0 ≤ (s[i].toNat : Int) ∧ (s[i].toNat : Int) < 256 := ⟨by omega, by have := s[i].toNat_lt; omega⟩

set_option maxHeartbeats 2000000 in
theorem specName_any (s : ByteArray) (w : World) (hs : s.size ≤ 140737488351232) : Calls Try.prog 87 #[.string s] w (Ret w (.bool (nmB s))) := by
  by_cases h1 : s.toList = [46, 46, 46]
  · have h1' : (s.toList == [46, 46, 46]) = true := by rw [h1]; rfl
    have H := Lib.hid (nmB_t (s := s) (.inl h1))
    clear h1
    go_enter Try.func87, Try.ntmps87
    go_wp2_with fail
    go_ret
    exact ⟨ret_b H.out, Below.refl _ _⟩
  by_cases h2 : s.toList = [95]
  · have h1' : (s.toList == [46, 46, 46]) = false := by simpa using h1
    have h2' : (s.toList == [95]) = true := by rw [h2]; rfl
    have H := Lib.hid (nmB_t (s := s) (.inr (.inl h2)))
    clear h1 h2
    go_enter Try.func87, Try.ntmps87
    go_wp2_with fail
    go_ret
    exact ⟨ret_b H.out, Below.refl _ _⟩
  have h1' : (s.toList == [46, 46, 46]) = false := by simpa using h1
  have h2' : (s.toList == [95]) = false := by simpa using h2
  have H1 := Lib.hid h1
  have H2 := Lib.hid h2
  clear h1 h2
  go_enter Try.func87, Try.ntmps87
  go_wp2_with fail
  go_loopg [3] s.size (fun kq v3 w' => ∃ i : Nat, i ≤ s.size ∧ s.size - i ≤ kq ∧ v3 = .int .i64 i ∧ Aside0 (∀ j (h : j < s.size), j < i → (letterB s[j].toNat || (!((j : Int) == 0) && digitB s[j].toNat)) = true) ∧ Aside0 (Below w.heap.size w w'))
  case atStart => exact ⟨0, Nat.zero_le _, by omega, rfl, ⟨fun j _ h => absurd h (by omega)⟩, ⟨Below.refl _ _⟩⟩
  case round =>
    obtain ⟨i, hi, hg, rfl, HN, HW⟩ := hrel
    by_cases hlt : i < s.size
    · by_cases h12 : i ≤ 12
      · have hd : decide ((i : Int) ≤ 12) = true := decide_eq_true (by omega)
        have hd1 : decide ((i : Int) < (s.size : Int)) = true := decide_eq_true (by omega)
        have HC := Lib.hid (l1Letter_any (s[i].toNat : Int) ((i : Int) == 0) wr (byte_lt s i hlt).1 (byte_lt s i hlt).2)
        go_wp2_with fail
        refine HC.out.mono ?_
        rintro e w1 ⟨rfl, hb1⟩
        cases hb : (letterB s[i].toNat || (!((i : Int) == 0) && digitB s[i].toNat)) with
        | true =>
          have HB := Lib.hid hb
          clear hb
          go_wp2_with fail
          go_roundg (s.size - (i + 1))
          case measure => omega
          case rel =>
            refine ⟨i + 1, by omega, Nat.le_refl _, by go_num, ⟨fun j hj hji => ?_⟩, ⟨below_step HW.out hb1⟩⟩
            rcases Nat.lt_or_ge j i with h | h
            · exact HN.out j hj h
            · obtain rfl : j = i := by omega
              exact HB.out
        | false =>
          have HB := Lib.hid hb
          clear hb
          go_wp2_with fail
          go_ret
          refine ⟨ret_b (nmB_f ?_), below_step HW.out hb1⟩
          rintro (h | h | ⟨_, _, h⟩)
          · exact H1.out h
          · exact H2.out h
          · have := h i hlt
            rw [HB.out] at this
            cases this
      · have hd : decide ((i : Int) ≤ 12) = false := decide_eq_false (by omega)
        have hd1 : decide ((i : Int) < (s.size : Int)) = true := decide_eq_true (by omega)
        have hd2 : decide (1 ≤ (s.size : Int)) = true := decide_eq_true (by omega)
        have hd3 : decide ((s.size : Int) ≤ 12) = false := decide_eq_false (by omega)
        have HL := Lib.hid (show 12 < s.size by omega)
        go_wp2_with fail
        go_ret
        refine ⟨ret_b (nmB_f ?_), HW.out⟩
        rintro (h | h | ⟨_, h, _⟩)
        · exact H1.out h
        · exact H2.out h
        · have := HL.out
          omega
    · obtain rfl : i = s.size := by omega
      by_cases g1 : 1 ≤ s.size
      · have hd2 : decide (1 ≤ (s.size : Int)) = true := decide_eq_true (by omega)
        by_cases g2 : s.size ≤ 12
        · have hd3 : decide ((s.size : Int) ≤ 12) = true := decide_eq_true (by omega)
          have H := Lib.hid (nmB_t (s := s) (.inr (.inr ⟨g1, g2, fun i h => HN.out i h h⟩)))
          go_wp2_with fail
          go_ret
          exact ⟨ret_b H.out, HW.out⟩
        · have hd3 : decide ((s.size : Int) ≤ 12) = false := decide_eq_false (by omega)
          have H := Lib.hid (nmB_f (s := s) (by
            rintro (h | h | ⟨_, h, _⟩)
            · exact H1.out h
            · exact H2.out h
            · omega))
          go_wp2_with fail
          go_ret
          exact ⟨ret_b H.out, HW.out⟩
      · have hd2 : decide (1 ≤ (s.size : Int)) = false := decide_eq_false (by omega)
        have H := Lib.hid (nmB_f (s := s) (by
            rintro (h | h | ⟨h, _, _⟩)
            · exact H1.out h
            · exact H2.out h
            · omega))
        go_wp2_with fail
        go_ret
        exact ⟨ret_b H.out, HW.out⟩
theorem bytealgIndex_any (s : ByteArray) (c : Int) (w : World) : Calls Try.prog 147 #[.string s, .int .u8 c] w fun e w' => e = .returned (.int .i64 (Lib.indexByte s.data.toList c.toNat.toUInt8)) ∧ w' = w := by
  go_enter Try.func147, Try.ntmps147
  go_wp2
  rw [run_callFunc_extern Try.func158 (by kernel_rfl) (by kernel_rfl) (by kernel_rfl) (e := Extern.BytealgIndexByte.indexByte) (by kernel_rfl), Lib.run_indexByteString]
  simp only [Result.andThen]
  rw [Oper.upon_value]
  go_wp2
  go_ret
  exact ⟨rfl, rfl⟩
theorem indexByte_any (s : ByteArray) (c : Int) (w : World) : Calls Try.prog 126 #[.string s, .int .u8 c] w fun e w' => e = .returned (.int .i64 (Lib.indexByte s.data.toList c.toNat.toUInt8)) ∧ w' = w := by
  go_enter Try.func126, Try.ntmps126
  go_wp2_with fail
  refine (bytealgIndex_any s c w).mono ?_
  rintro e w1 ⟨rfl, rfl⟩
  go_wp2_with fail
  go_ret
  exact ⟨rfl, rfl⟩
theorem signs_tab : ∀ n : Fin 256, decide (0 ≤ Lib.indexByte [42, 63, 61, 43, 60] (n : Nat).toUInt8) = (decide ((n : Nat) = 42) || decide ((n : Nat) = 63) || decide ((n : Nat) = 61) || decide ((n : Nat) = 43) || decide ((n : Nat) = 60)) := by decide +kernel
theorem signs (c : Int) (h0 : 0 ≤ c) (h1 : c < 256) : decide (0 ≤ Lib.indexByte [42, 63, 61, 43, 60] c.toNat.toUInt8) = (c == 42 || c == 63 || c == 61 || c == 43 || c == 60) := by
  have h := signs_tab ⟨c.toNat, by omega⟩
  simp only at h
  rw [h, Bool.eq_iff_iff]
  simp
  omega
set_option maxHeartbeats 4000000 in
theorem implName_any (s : ByteArray) (w : World) (hs : s.size ≤ 140737488351232) : Calls Try.prog 91 #[.string s] w (Ret w (.bool (nmB s))) := by
  by_cases h1 : s.toList = [46, 46, 46]
  · have h1' : (s.toList == [46, 46, 46]) = true := by rw [h1]; rfl
    have H := Lib.hid (nmB_t (s := s) (.inl h1))
    clear h1
    go_enter Try.func91, Try.ntmps91
    go_wp2_with fail
    go_ret
    exact ⟨ret_b H.out, Below.refl _ _⟩
  by_cases h2 : s.toList = [95]
  · have h1' : (s.toList == [46, 46, 46]) = false := by simpa using h1
    have h2' : (s.toList == [95]) = true := by rw [h2]; rfl
    have H := Lib.hid (nmB_t (s := s) (.inr (.inl h2)))
    clear h1 h2
    go_enter Try.func91, Try.ntmps91
    go_wp2_with fail
    go_ret
    exact ⟨ret_b H.out, Below.refl _ _⟩
  have h1' : (s.toList == [46, 46, 46]) = false := by simpa using h1
  have h2' : (s.toList == [95]) = false := by simpa using h2
  have H1 := Lib.hid h1
  have H2 := Lib.hid h2
  clear h1 h2
  go_enter Try.func91, Try.ntmps91
  go_wp2_with fail
  go_loopg [3, 4] s.size (fun kq v3 v4 w' => ∃ i : Nat, i ≤ s.size ∧ s.size - i ≤ kq ∧ v3 = .int .i64 i ∧ Aside0 (∀ j (h : j < s.size), j < i → (letterB s[j].toNat || (!((j : Int) == 0) && digitB s[j].toNat)) = true) ∧ Aside0 (Below w.heap.size w w'))
  case atStart => exact ⟨0, Nat.zero_le _, by omega, rfl, ⟨fun j _ h => absurd h (by omega)⟩, ⟨Below.refl _ _⟩⟩
  case round =>
    obtain ⟨i, hi, hg, rfl, HN, HW⟩ := hrel
    by_cases hlt : i < s.size
    · have hd1 : decide ((i : Int) < (s.size : Int)) = true := decide_eq_true (by omega)
      obtain ⟨hc0, hc1⟩ := byte_lt s i hlt
      have HS := Lib.hid (signs (s[i].toNat : Int) hc0 hc1)
      have HK : Hid ((letterB s[i].toNat || (!((i : Int) == 0) && digitB s[i].toNat)) = true → ∀ j (h : j < s.size), j < i + 1 → (letterB s[j].toNat || (!((j : Int) == 0) && digitB s[j].toNat)) = true) := Lib.hid (fun hb j hj hji => by
        rcases Nat.lt_or_ge j i with h | h
        · exact HN.out j hj h
        · obtain rfl : j = i := by omega
          exact hb)
      have HF : Hid ((letterB s[i].toNat || (!((i : Int) == 0) && digitB s[i].toNat)) = false → false = nmB s) := Lib.hid (fun hb => nmB_f (by
          rintro (h | h | ⟨_, _, h⟩)
          · exact H1.out h
          · exact H2.out h
          · have := h i hlt
            rw [hb] at this
            cases this))
      clear HN
      have hI : ∀ W, Calls Try.prog 126 #[.string ⟨#[42, 63, 61, 43, 60]⟩, .int .u8 (s[i].toNat : Int)] W (fun e w' => e = .returned (.int .i64 (Lib.indexByte [42, 63, 61, 43, 60] (s[i].toNat : Int).toNat.toUInt8)) ∧ w' = W) := fun W => indexByte_any _ _ W
      have HI := Lib.hid hI
      clear hI
      generalize Lib.indexByte [42, 63, 61, 43, 60] (s[i].toNat : Int).toNat.toUInt8 = r at HI HS
      by_cases hA : 97 ≤ (s[i].toNat : Int) ∧ (s[i].toNat : Int) ≤ 122
      · obtain ⟨a1, a2⟩ := hA
        have HG := Lib.hid (show (letterB (s[i].toNat : Int) || (!((i : Int) == 0) && digitB (s[i].toNat : Int))) = true by simp [letterB, a1, a2])
        have a1' := decide_eq_true a1
        have a2' := decide_eq_true a2
        go_wp2_with fail
        go_roundg (s.size - (i + 1))
        case measure => omega
        case rel => exact ⟨i + 1, by omega, Nat.le_refl _, by go_num, ⟨HK.out HG.out⟩, ⟨HW.out⟩⟩
      · have hA' : (decide (97 ≤ (s[i].toNat : Int)) && decide ((s[i].toNat : Int) ≤ 122)) = false := by rw [Bool.eq_false_iff]; simp; omega
        have HA := Lib.hid hA'
        clear hA'
        by_cases a1 : 97 ≤ (s[i].toNat : Int)
        · have a2 : 122 < (s[i].toNat : Int) := by omega
          clear hA
          have a1' := decide_eq_true a1
          have a2' : decide ((s[i].toNat : Int) ≤ 122) = false := decide_eq_false (by omega)
          go_wp2_with fail
          refine (HI.out wr).mono ?_
          rintro e w1 ⟨rfl, rfl⟩
          by_cases hr : 0 ≤ r
          · have HG := Lib.hid (show (letterB (s[i].toNat : Int) || (!((i : Int) == 0) && digitB (s[i].toNat : Int))) = true by
              have := HS.out; rw [decide_eq_true hr] at this; unfold letterB; rw [HA.out]; simp at this ⊢; left; omega)
            have hr' := decide_eq_true hr
            go_wp2_with fail
            go_roundg (s.size - (i + 1))
            case measure => omega
            case rel => exact ⟨i + 1, by omega, Nat.le_refl _, by go_num, ⟨HK.out HG.out⟩, ⟨HW.out⟩⟩
          · have hr' : decide (0 ≤ r) = false := decide_eq_false hr
            have HG := Lib.hid (show (letterB (s[i].toNat : Int) || (!((i : Int) == 0) && digitB (s[i].toNat : Int))) = false by
              have := HS.out; rw [decide_eq_false hr] at this; unfold letterB digitB; rw [HA.out]; simp at this ⊢; omega)
            have e45 : ((s[i].toNat : Int) == 45) = false := by simp; omega
            have e48 : decide (48 ≤ (s[i].toNat : Int)) = true := decide_eq_true (by omega)
            have e57 : decide ((s[i].toNat : Int) ≤ 57) = false := decide_eq_false (by omega)
            by_cases i0 : 0 < i
            · have i0' : decide ((0 : Int) < (i : Int)) = true := decide_eq_true (by omega)
              go_wp2_with fail
              go_ret
              exact ⟨ret_b (HF.out HG.out), HW.out⟩
            · have i0' : decide ((0 : Int) < (i : Int)) = false := decide_eq_false (by omega)
              go_wp2_with fail
              go_ret
              exact ⟨ret_b (HF.out HG.out), HW.out⟩
        · have a1' : decide (97 ≤ (s[i].toNat : Int)) = false := decide_eq_false a1
          clear hA
          go_wp2_with fail
          refine (HI.out wr).mono ?_
          rintro e w1 ⟨rfl, rfl⟩
          by_cases hr : 0 ≤ r
          · have HG := Lib.hid (show (letterB (s[i].toNat : Int) || (!((i : Int) == 0) && digitB (s[i].toNat : Int))) = true by
              have := HS.out; rw [decide_eq_true hr] at this; unfold letterB; rw [HA.out]; simp at this ⊢; left; omega)
            have hr' := decide_eq_true hr
            go_wp2_with fail
            go_roundg (s.size - (i + 1))
            case measure => omega
            case rel => exact ⟨i + 1, by omega, Nat.le_refl _, by go_num, ⟨HK.out HG.out⟩, ⟨HW.out⟩⟩
          · have hr' : decide (0 ≤ r) = false := decide_eq_false hr
            have HL := Lib.hid (show letterB (s[i].toNat : Int) = false by
              have := HS.out; rw [decide_eq_false hr] at this; unfold letterB; rw [HA.out]; simp at this ⊢; omega)
            by_cases i0 : 0 < i
            · have i0' : decide ((0 : Int) < (i : Int)) = true := decide_eq_true (by omega)
              have HZ := Lib.hid (show ((i : Int) == 0) = false by simp; omega)
              by_cases hD : digitB (s[i].toNat : Int) = true
              · have HG := Lib.hid (show (letterB (s[i].toNat : Int) || (!((i : Int) == 0) && digitB (s[i].toNat : Int))) = true by rw [hD, HZ.out]; simp)
                by_cases d48 : 48 ≤ (s[i].toNat : Int)
                · have d57 : (s[i].toNat : Int) ≤ 57 := by simp [digitB, d48] at hD; omega
                  have d48' := decide_eq_true d48
                  have d57' := decide_eq_true d57
                  clear hD
                  go_wp2_with fail
                  go_roundg (s.size - (i + 1))
                  case measure => omega
                  case rel => exact ⟨i + 1, by omega, Nat.le_refl _, by go_num, ⟨HK.out HG.out⟩, ⟨HW.out⟩⟩
                · have d45 : ((s[i].toNat : Int) == 45) = true := by simp [digitB, d48] at hD; simp; omega
                  have d48' : decide (48 ≤ (s[i].toNat : Int)) = false := decide_eq_false d48
                  clear hD
                  go_wp2_with fail
                  go_roundg (s.size - (i + 1))
                  case measure => omega
                  case rel => exact ⟨i + 1, by omega, Nat.le_refl _, by go_num, ⟨HK.out HG.out⟩, ⟨HW.out⟩⟩
              · have HG := Lib.hid (show (letterB (s[i].toNat : Int) || (!((i : Int) == 0) && digitB (s[i].toNat : Int))) = false by rw [HL.out, Bool.eq_false_iff.2 hD]; simp)
                have d45 : ((s[i].toNat : Int) == 45) = false := by simp [digitB] at hD; simp; omega
                by_cases d48 : 48 ≤ (s[i].toNat : Int)
                · have d57' : decide ((s[i].toNat : Int) ≤ 57) = false := decide_eq_false (by simp [digitB, d48] at hD; omega)
                  have d48' := decide_eq_true d48
                  clear hD
                  go_wp2_with fail
                  go_ret
                  exact ⟨ret_b (HF.out HG.out), HW.out⟩
                · have d48' : decide (48 ≤ (s[i].toNat : Int)) = false := decide_eq_false d48
                  clear hD
                  go_wp2_with fail
                  go_ret
                  exact ⟨ret_b (HF.out HG.out), HW.out⟩
            · have i0' : decide ((0 : Int) < (i : Int)) = false := decide_eq_false (by omega)
              have HG := Lib.hid (show (letterB (s[i].toNat : Int) || (!((i : Int) == 0) && digitB (s[i].toNat : Int))) = false by
                obtain rfl : i = 0 := by omega
                rw [HL.out]; simp)
              go_wp2_with fail
              go_ret
              exact ⟨ret_b (HF.out HG.out), HW.out⟩
    · obtain rfl : i = s.size := by omega
      have HX : Hid (decide (1 ≤ (s.size : Int) ∧ (s.size : Int) ≤ 12) = nmB s) := Lib.hid (by
        by_cases g : 1 ≤ s.size ∧ s.size ≤ 12
        · rw [decide_eq_true (by omega)]
          exact nmB_t (.inr (.inr ⟨g.1, g.2, fun i h => HN.out i h h⟩))
        · rw [decide_eq_false (by omega)]
          refine nmB_f ?_
          rintro (h | h | ⟨h, h', _⟩)
          · exact H1.out h
          · exact H2.out h
          · omega)
      go_wp2_with fail
      refine (within_any _ _ _ _).mono ?_
      rintro e w1 ⟨rfl, hb1⟩
      rw [HX.out]
      go_wp2_with fail
      go_ret
      exact ⟨rfl, below_step HW.out hb1⟩
end Go.Proofs.Ytnaefjilcabkoaa
end
section
namespace Go.Proofs.Ytnaefjilcabkoaa
open Go.RowKit Go.Proofs.YtnaefjilcabkoaaW.PrintWords Go.Proofs.YtnaefjilcabkoaaW.PrintLast Go.Proofs.YtnaefjilcabkoaaW.PrintMore
set_option linter.unusedVariables false
set_option linter.unusedSimpArgs false
set_option maxHeartbeats 1000000 in
theorem l1Count_any : ∀ (x : Fm) (A3 : Option Addr) (c3 : Nat) (A4 : Option Addr) (c4 : Nat) (w : World), FmIn w x A3 c3 A4 c4 → x.size < 4611686018427387904 →
    Calls Try.prog 115 #[.agg #[.int .i64 x.f0, .string x.f1, .int .i64 x.f2, .slice A3 x.f3.length c3, .slice A4 x.f4.length c4]] w (Ret w (.int .i64 x.size)) := by
  intro x
  induction x using Fm.ind with
  | h x ih =>
    intro A3 c3 A4 c4 w hin hsz
    have hmax := hin.g4.2.1
    have hse := Fm.size_eq x
    have HS := Lib.hid hse
    have hszl : sizes x.f4 < 4611686018427387904 := by omega
    clear hse hsz
    go_enter Try.func115, Try.ntmps115
    go_wp2_with fail
    go_loopg [3, 4] x.f4.length (fun kq v3 v4 w' => ∃ i : Nat, i ≤ x.f4.length ∧ x.f4.length - i ≤ kq ∧ v4 = .int .i64 i ∧ v3 = .int .i64 ((1 + sizes (x.f4.take i) : Nat) : Int) ∧ Aside0 (w'.heap[w.heap.size]? = some (.cells #[.int .i64 x.f0, .string x.f1, .int .i64 x.f2, .slice A3 x.f3.length c3, .slice A4 x.f4.length c4] 29 (0, 0))) ∧ Aside0 (Below w.heap.size w w'))
    case atStart => exact ⟨0, Nat.zero_le _, by omega, rfl, by simp [sizes], ⟨blk_new w _⟩, ⟨below_new w _⟩⟩
    case round =>
      obtain ⟨i, hi, hg, rfl, rfl, HB, HW⟩ := hrel
      obtain ⟨q0, q1, q2, q3, q4⟩ := fm_cells HB.out
      by_cases hlt : i < x.f4.length
      · obtain ⟨ad, B3, d3, B4, d4, e, h0, h1, h2, h3, h4, hk⟩ := kid_at (Kd.C_below hin.g4 HW.out) i hlt
        have hle := sizes_take_le x.f4 (i + 1)
        rw [sizes_take _ _ hlt] at hle
        have HC := Lib.hid (ih x.f4[i] (List.getElem_mem hlt) B3 d3 B4 d4 wr hk (by omega))
        clear hk ih
        subst e
        go_wp2_with fail
        refine HC.out.mono ?_
        rintro e w1 ⟨rfl, hb1⟩
        go_wp2_with fail
        go_roundg (x.f4.length - (i + 1))
        case measure => omega
        case rel =>
          refine ⟨i + 1, by omega, Nat.le_refl _, by go_num, ?_, ⟨blk_below HB.out hb1⟩, ⟨below_step HW.out hb1⟩⟩
          rw [sizes_take _ _ hlt]; go_num
      · have he : i = x.f4.length := by omega
        subst he
        go_wp2_with fail
        go_ret
        refine ⟨?_, HW.out⟩
        rw [List.take_length, HS.out]
        rfl
end Go.Proofs.Ytnaefjilcabkoaa
end
section
namespace Go.Proofs.Ytnaefjilcabkoaa
open Go.RowKit Go.Proofs.YtnaefjilcabkoaaW.PrintWords Go.Proofs.YtnaefjilcabkoaaW.PrintLast Go.Proofs.YtnaefjilcabkoaaW.PrintMore
set_option linter.unusedVariables false
set_option linter.unusedSimpArgs false
def IsOk : Nat → Fm → Prop
  | 0, _ => False
  | n + 1, x => (x.f0 = 1 ∧ NmOk x.f1 ∧ x.f2 = 0 ∧ ScOk x.f3 ∧ x.f4.length = 0) ∨ (x.f0 = 2 ∧ x.f1.toList = [] ∧ 0 ≤ x.f2 ∧ x.f2 ≤ 999 ∧ x.f3.length = 0 ∧ x.f4.length = 0) ∨ (x.f0 = 3 ∧ x.f1.toList = [] ∧ x.f2 = 0 ∧ x.f3.length = 0 ∧ ∀ k, k ∈ x.f4 → IsOk n k)
theorem isOk1 {n : Nat} {x : Fm} (h : x.f0 = 1) : IsOk (n + 1) x ↔ NmOk x.f1 ∧ x.f2 = 0 ∧ ScOk x.f3 ∧ x.f4.length = 0 := by
  unfold IsOk
  constructor
  · rintro (⟨_, h⟩ | ⟨h2, _⟩ | ⟨h2, _⟩)
    · exact h
    · omega
    · omega
  · exact fun h2 => .inl ⟨h, h2⟩
theorem isOk2 {n : Nat} {x : Fm} (h : x.f0 = 2) : IsOk (n + 1) x ↔ x.f1.toList = [] ∧ 0 ≤ x.f2 ∧ x.f2 ≤ 999 ∧ x.f3.length = 0 ∧ x.f4.length = 0 := by
  unfold IsOk
  constructor
  · rintro (⟨h2, _⟩ | ⟨_, h⟩ | ⟨h2, _⟩)
    · omega
    · exact h
    · omega
  · exact fun h2 => .inr (.inl ⟨h, h2⟩)
theorem isOk3 {n : Nat} {x : Fm} (h1 : x.f0 ≠ 1) (h2 : x.f0 ≠ 2) : IsOk (n + 1) x ↔ x.f0 = 3 ∧ x.f1.toList = [] ∧ x.f2 = 0 ∧ x.f3.length = 0 ∧ ∀ k, k ∈ x.f4 → IsOk n k := by
  conv => lhs; unfold IsOk
  constructor
  · rintro (⟨h, _⟩ | ⟨h, _⟩ | h)
    · exact absurd h h1
    · exact absurd h h2
    · exact h
  · exact fun h => .inr (.inr h)
theorem name_size {x : Fm} (h : x.tot ≤ 1048576) : x.f1.size ≤ 140737488351232 := by rw [Fm.tot_eq] at h; omega
theorem kid_tot {x k : Fm} (h : x.tot ≤ 1048576) (hk : k ∈ x.f4) : k.tot ≤ 1048576 := by
  have := totL_mem hk
  rw [Fm.tot_eq] at h
  omega
set_option maxHeartbeats 4000000 in
set_option maxRecDepth 100000 in
theorem l1Is_any : ∀ (n : Nat) (x : Fm) (A3 : Option Addr) (c3 : Nat) (A4 : Option Addr) (c4 : Nat) (m : Int) (w : World), m = n → n ≤ 1000 → FmIn w x A3 c3 A4 c4 → x.tot ≤ 1048576 →
    Calls Try.prog 114 #[.agg #[.int .i64 x.f0, .string x.f1, .int .i64 x.f2, .slice A3 x.f3.length c3, .slice A4 x.f4.length c4], .int .i64 m] w (Ret w (.bool (pB (IsOk n x)))) := by
  intro n
  induction n with
  | zero =>
    intro x A3 c3 A4 c4 m w hm hn hin ht
    have tm : (m == 0) = true := by rw [beq_iff_eq]; omega
    clear hin ht hm
    go_enter Try.func114, Try.ntmps114
    go_wp2_with fail
    go_ret
    exact ⟨ret_b (pB_no (fun h => h)), below_new w _⟩
  | succ n ih =>
    intro x A3 c3 A4 c4 m w hm hn hin ht
    have tm : (m == 0) = false := by rw [beq_eq_false_iff_ne]; omega
    have m1 : -1000 ≤ m := by omega
    have m2 : m ≤ 1001 := by omega
    have HM := Lib.hid hm
    have HI := Lib.hid hin
    have HT := Lib.hid ht
    have IH := Lib.hid ih
    have hmax := hin.g4.2.1
    have HN := Lib.hid (specName_any x.f1 (w.alloc (.cells #[.int .i64 x.f0, .string x.f1, .int .i64 x.f2, .slice A3 x.f3.length c3, .slice A4 x.f4.length c4] 29)) (name_size ht))
    clear hm hin ht ih hn
    by_cases k1 : x.f0 = 1
    · have e1 : (x.f0 == 1) = true := by simpa using k1
      have K1 := Lib.hid k1
      clear k1
      go_enter Try.func114, Try.ntmps114
      go_wp2_with fail
      refine HN.out.mono ?_
      rintro e w1 ⟨rfl, hb1⟩
      obtain ⟨z1, b1⟩ := one_new hb1
      obtain ⟨p0, p1, p2, p3, p4⟩ := fm_cells z1
      have B1 := Lib.hid b1
      have HS := Lib.hid (l1Scopes_any x.f3 A3 c3 w1 (Kd.C_below HI.out.g3 b1) HI.out.l3)
      clear hb1 b1
      cases hq : nmB x.f1 with
      | false =>
        have HQ := Lib.hid hq
        clear hq
        go_wp2_with fail
        go_ret
        exact ⟨ret_b (pB_no (fun h => by have := nmB_t ((isOk1 K1.out).1 h).1; rw [HQ.out] at this; cases this)), B1.out⟩
      | true =>
        have HQ := Lib.hid hq
        clear hq
        by_cases h2 : x.f2 = 0
        · have t2 : (x.f2 == 0) = true := by simpa using h2
          have H2 := Lib.hid h2
          clear h2
          go_wp2_with fail
          refine HS.out.mono ?_
          rintro e w2 ⟨rfl, hb2⟩
          have z2 := blk_below z1 hb2
          have B2 := Lib.hid (below_step B1.out hb2)
          clear hb2 z1 p0 p1 p2 p3 p4
          obtain ⟨p0, p1, p2, p3, p4⟩ := fm_cells z2
          cases hq : pB (ScOk x.f3) with
          | false =>
            have HQ2 := Lib.hid hq
            clear hq
            go_wp2_with fail
            go_ret
            exact ⟨ret_b (pB_no (fun h => by have := pB_yes ((isOk1 K1.out).1 h).2.2.1; rw [HQ2.out] at this; cases this)), B2.out⟩
          | true =>
            have HQ2 := Lib.hid hq
            clear hq
            by_cases h3 : x.f4.length = 0
            · have t3 : ((x.f4.length : Int) == 0) = true := by rw [beq_iff_eq]; omega
              have H3 := Lib.hid h3
              clear h3
              go_wp2_with fail
              go_ret
              exact ⟨ret_b (pB_yes ((isOk1 K1.out).2 ⟨(nmB_iff _).1 HQ.out, H2.out, pB_iff.1 HQ2.out, H3.out⟩)), B2.out⟩
            · have t3 : ((x.f4.length : Int) == 0) = false := by rw [beq_eq_false_iff_ne]; omega
              have H3 := Lib.hid h3
              clear h3
              go_wp2_with fail
              go_ret
              exact ⟨ret_b (pB_no (fun h => H3.out ((isOk1 K1.out).1 h).2.2.2)), B2.out⟩
        · have t2 : (x.f2 == 0) = false := by simpa using h2
          have H2 := Lib.hid h2
          clear h2
          go_wp2_with fail
          go_ret
          exact ⟨ret_b (pB_no (fun h => H2.out ((isOk1 K1.out).1 h).2.1)), B1.out⟩
    · have e1 : (x.f0 == 1) = false := by simpa using k1
      have K1 := Lib.hid k1
      clear k1 HN
      by_cases k2 : x.f0 = 2
      · have e2 : (x.f0 == 2) = true := by simpa using k2
        have K2 := Lib.hid k2
        clear k2
        have B0 := Lib.hid (below_new w (.cells #[.int .i64 x.f0, .string x.f1, .int .i64 x.f2, .slice A3 x.f3.length c3, .slice A4 x.f4.length c4] 29))
        go_enter Try.func114, Try.ntmps114
        by_cases h1 : x.f1.toList = []
        · have t1 : (x.f1.toList == []) = true := by rw [h1]; rfl
          have H1 := Lib.hid h1
          clear h1
          by_cases h2 : 0 ≤ x.f2
          · have t2 : decide (x.f2 ≥ 0) = true := decide_eq_true h2
            have t2' : decide (0 ≤ x.f2) = true := decide_eq_true h2
            have H2 := Lib.hid h2
            clear h2
            by_cases h3 : x.f2 ≤ 999
            · have t3 : decide (x.f2 ≤ 999) = true := decide_eq_true h3
              have H3 := Lib.hid h3
              clear h3
              by_cases h4 : x.f3.length = 0
              · have t4 : ((x.f3.length : Int) == 0) = true := by rw [beq_iff_eq]; omega
                have H4 := Lib.hid h4
                clear h4
                by_cases h5 : x.f4.length = 0
                · have t5 : ((x.f4.length : Int) == 0) = true := by rw [beq_iff_eq]; omega
                  have H5 := Lib.hid h5
                  clear h5
                  go_wp2_with fail
                  go_ret
                  exact ⟨ret_b (pB_yes ((isOk2 K2.out).2 ⟨H1.out, H2.out, H3.out, H4.out, H5.out⟩)), B0.out⟩
                · have t5 : ((x.f4.length : Int) == 0) = false := by rw [beq_eq_false_iff_ne]; omega
                  have H5 := Lib.hid h5
                  clear h5
                  go_wp2_with fail
                  go_ret
                  exact ⟨ret_b (pB_no (fun h => H5.out ((isOk2 K2.out).1 h).2.2.2.2)), B0.out⟩
              · have t4 : ((x.f3.length : Int) == 0) = false := by rw [beq_eq_false_iff_ne]; omega
                have H4 := Lib.hid h4
                clear h4
                go_wp2_with fail
                go_ret
                exact ⟨ret_b (pB_no (fun h => H4.out ((isOk2 K2.out).1 h).2.2.2.1)), B0.out⟩
            · have t3 : decide (x.f2 ≤ 999) = false := decide_eq_false h3
              have H3 := Lib.hid h3
              clear h3
              go_wp2_with fail
              go_ret
              exact ⟨ret_b (pB_no (fun h => by have h1 := H3.out; have h2 := ((isOk2 K2.out).1 h).2.2.1; omega)), B0.out⟩
          · have t2 : decide (x.f2 ≥ 0) = false := decide_eq_false h2
            have t2' : decide (0 ≤ x.f2) = false := decide_eq_false h2
            have H2 := Lib.hid h2
            clear h2
            go_wp2_with fail
            go_ret
            exact ⟨ret_b (pB_no (fun h => by have h1 := H2.out; have h2 := ((isOk2 K2.out).1 h).2.1; omega)), B0.out⟩
        · have t1 : (x.f1.toList == []) = false := by rw [beq_eq_false_iff_ne]; exact h1
          have H1 := Lib.hid h1
          clear h1
          go_wp2_with fail
          go_ret
          exact ⟨ret_b (pB_no (fun h => H1.out ((isOk2 K2.out).1 h).1)), B0.out⟩
      · have e2 : (x.f0 == 2) = false := by simpa using k2
        have K2 := Lib.hid k2
        clear k2
        by_cases k3 : x.f0 = 3
        · have e3 : (x.f0 != 3) = false := by simpa using k3
          have e3' : (x.f0 == 3) = true := by simpa using k3
          have K3 := Lib.hid k3
          clear k3
          have B0 := Lib.hid (below_new w (.cells #[.int .i64 x.f0, .string x.f1, .int .i64 x.f2, .slice A3 x.f3.length c3, .slice A4 x.f4.length c4] 29))
          obtain ⟨p0, p1, p2, p3, p4⟩ := fm_cells (blk_new w (.cells #[.int .i64 x.f0, .string x.f1, .int .i64 x.f2, .slice A3 x.f3.length c3, .slice A4 x.f4.length c4] 29))
          clear p0 p1 p2 p3
          go_enter Try.func114, Try.ntmps114
          by_cases h1 : x.f1.toList = []
          · have t1 : (x.f1.toList != []) = false := by rw [h1]; rfl
            have t1' : (x.f1.toList == []) = true := by rw [h1]; rfl
            have H1 := Lib.hid h1
            clear h1
            by_cases h2 : x.f2 = 0
            · have t2 : (x.f2 != 0) = false := by simpa using h2
              have H2 := Lib.hid h2
              clear h2
              by_cases h4 : x.f3.length = 0
              · have t4 : ((x.f3.length : Int) != 0) = false := by simp [h4]
                have t4' : ((x.f3.length : Int) == 0) = true := by rw [beq_iff_eq]; omega
                have H4 := Lib.hid h4
                clear h4
                go_wp2_with fail
                go_loopg [5] x.f4.length (fun kq v5 w' => ∃ i : Nat, i ≤ x.f4.length ∧ x.f4.length - i ≤ kq ∧ v5 = .int .i64 i ∧ Aside0 (∀ j (h : j < x.f4.length), j < i → IsOk n x.f4[j]) ∧ Aside0 (Below (w.alloc (.cells #[.int .i64 x.f0, .string x.f1, .int .i64 x.f2, .slice A3 x.f3.length c3, .slice A4 x.f4.length c4] 29)).heap.size (w.alloc (.cells #[.int .i64 x.f0, .string x.f1, .int .i64 x.f2, .slice A3 x.f3.length c3, .slice A4 x.f4.length c4] 29)) w'))
                case atStart => exact ⟨0, Nat.zero_le _, by omega, rfl, ⟨fun j _ h => absurd h (by omega)⟩, ⟨Below.refl _ _⟩⟩
                case round =>
                  obtain ⟨i, hi, hg, rfl, HN, HW⟩ := hrel
                  have q4 := ck0 HW.out p4
                  have HW0 := Lib.hid (below_step B0.out HW.out)
                  by_cases hlt : i < x.f4.length
                  · obtain ⟨ad, G3, m3, G4, m4, e, g0, g1, g2, g3, g4, hk⟩ := kid_at (Kd.C_below HI.out.g4 HW0.out) i hlt
                    subst e
                    have HC := Lib.hid (IH.out x.f4[i] G3 m3 G4 m4 (m - 1) wr (by have := HM.out; omega) (by have := HM.out; omega) hk (kid_tot HT.out (List.getElem_mem hlt)))
                    clear hk
                    go_wp2_with fail
                    refine HC.out.mono ?_
                    rintro e w1 ⟨rfl, hb1⟩
                    have HB1 := Lib.hid hb1
                    clear hb1
                    cases he : pB (IsOk n x.f4[i]) with
                    | true =>
                      have HE := Lib.hid he
                      clear he
                      go_wp2_with fail
                      go_roundg (x.f4.length - (i + 1))
                      case measure => omega
                      case rel =>
                        refine ⟨i + 1, by omega, Nat.le_refl _, by go_num, ⟨fun j hj hji => ?_⟩, ⟨below_step HW.out HB1.out⟩⟩
                        rcases Nat.lt_or_ge j i with h | h
                        · exact HN.out j hj h
                        · obtain rfl : j = i := by omega
                          exact pB_iff.1 HE.out
                    | false =>
                      have HE := Lib.hid he
                      clear he
                      go_wp2_with fail
                      go_ret
                      refine ⟨ret_b (pB_no (fun h => ?_)), below_step HW0.out HB1.out⟩
                      have := pB_yes (((isOk3 K1.out K2.out).1 h).2.2.2.2 _ (List.getElem_mem hlt))
                      rw [HE.out] at this
                      cases this
                  · obtain rfl : i = x.f4.length := by omega
                    go_wp2_with fail
                    go_ret
                    refine ⟨ret_b (pB_yes ((isOk3 K1.out K2.out).2 ⟨K3.out, H1.out, H2.out, H4.out, fun k hk => ?_⟩)), HW0.out⟩
                    obtain ⟨j, hj, rfl⟩ := List.getElem_of_mem hk
                    exact HN.out j hj hj
              · have t4 : ((x.f3.length : Int) != 0) = true := by rw [bne_iff_ne]; omega
                have t4' : ((x.f3.length : Int) == 0) = false := by rw [beq_eq_false_iff_ne]; omega
                have H4 := Lib.hid h4
                clear h4
                go_wp2_with fail
                go_ret
                exact ⟨ret_b (pB_no (fun h => by have h1 := H4.out; have h2 := ((isOk3 K1.out K2.out).1 h).2.2.2.1; omega)), B0.out⟩
            · have t2 : (x.f2 != 0) = true := by simpa using h2
              have H2 := Lib.hid h2
              clear h2
              go_wp2_with fail
              go_ret
              exact ⟨ret_b (pB_no (fun h => H2.out ((isOk3 K1.out K2.out).1 h).2.2.1)), B0.out⟩
          · have t1 : (x.f1.toList != []) = true := by rw [bne_iff_ne]; exact h1
            have t1' : (x.f1.toList == []) = false := by rw [beq_eq_false_iff_ne]; exact h1
            have H1 := Lib.hid h1
            clear h1
            go_wp2_with fail
            go_ret
            exact ⟨ret_b (pB_no (fun h => H1.out ((isOk3 K1.out K2.out).1 h).2.1)), B0.out⟩
        · have e3 : (x.f0 != 3) = true := by simpa using k3
          have e3' : (x.f0 == 3) = false := by simpa using k3
          have K3 := Lib.hid k3
          clear k3
          have B0 := Lib.hid (below_new w (.cells #[.int .i64 x.f0, .string x.f1, .int .i64 x.f2, .slice A3 x.f3.length c3, .slice A4 x.f4.length c4] 29))
          go_enter Try.func114, Try.ntmps114
          go_wp2_with fail
          go_ret
          exact ⟨ret_b (pB_no (fun h => K3.out ((isOk3 K1.out K2.out).1 h).1)), B0.out⟩
def FmOk (x : Fm) : Prop := IsOk 40 x ∧ x.size ≤ 400
theorem specValid_any (x : Fm) (A3 : Option Addr) (c3 : Nat) (A4 : Option Addr) (c4 : Nat) (w : World) (hin : FmIn w x A3 c3 A4 c4) (ht : x.tot ≤ 1048576) :
    Calls Try.prog 72 #[.agg #[.int .i64 x.f0, .string x.f1, .int .i64 x.f2, .slice A3 x.f3.length c3, .slice A4 x.f4.length c4]] w (Ret w (.bool (pB (FmOk x)))) := by
  have hb := below_new w (.cells #[.int .i64 x.f0, .string x.f1, .int .i64 x.f2, .slice A3 x.f3.length c3, .slice A4 x.f4.length c4] 29)
  have HI := Lib.hid (l1Is_any 40 x A3 c3 A4 c4 40 _ rfl (by omega) (hin.below hb) ht)
  have hsz : x.size < 4611686018427387904 := by have := sizes_totL x; omega
  have HS := Lib.hid (fun W hb => l1Count_any x A3 c3 A4 c4 W (hin.below hb) hsz)
  clear hb hin
  go_enter Try.func72, Try.ntmps72
  go_wp2_with fail
  refine HI.out.mono ?_
  rintro e w1 ⟨rfl, hb1⟩
  obtain ⟨z1, b1⟩ := one_new hb1
  obtain ⟨p0, p1, p2, p3, p4⟩ := fm_cells z1
  have B1 := Lib.hid b1
  have HS1 := Lib.hid (HS.out _ b1)
  clear hb1 b1 HS
  cases hq : pB (IsOk 40 x) with
  | false =>
    have HQ := Lib.hid hq
    clear hq
    go_wp2_with fail
    go_ret
    exact ⟨ret_b (pB_no (fun h => by have := pB_yes h.1; rw [HQ.out] at this; cases this)), B1.out⟩
  | true =>
    have HQ := Lib.hid hq
    clear hq
    go_wp2_with fail
    refine HS1.out.mono ?_
    rintro e w2 ⟨rfl, hb2⟩
    have B2 := Lib.hid (below_step B1.out hb2)
    clear hb2
    by_cases h4 : x.size ≤ 400
    · have t1 : decide ((x.size : Int) ≤ 400) = true := decide_eq_true (by omega)
      have H4 := Lib.hid h4
      clear h4
      go_wp2_with fail
      go_ret
      exact ⟨ret_b (pB_yes ⟨pB_iff.1 HQ.out, H4.out⟩), B2.out⟩
    · have t1 : decide ((x.size : Int) ≤ 400) = false := decide_eq_false (by omega)
      have H4 := Lib.hid h4
      clear h4
      go_wp2_with fail
      go_ret
      exact ⟨ret_b (pB_no (fun h => by have h1 := H4.out; have h2 := h.2; omega)), B2.out⟩
end Go.Proofs.Ytnaefjilcabkoaa
end
section
namespace Go.Proofs.Ytnaefjilcabkoaa
open Go.RowKit Go.Proofs.YtnaefjilcabkoaaW.PrintWords Go.Proofs.YtnaefjilcabkoaaW.PrintLast Go.Proofs.YtnaefjilcabkoaaW.PrintMore
set_option linter.unusedVariables false
set_option linter.unusedSimpArgs false
def LeftAt (w : World) (g : Nat) (L : Int) : Prop := w.heap[g]? = some (.cells #[.int .i64 L] 3 (0, 0))
def OkPost (n : Nat) (x : Fm) (L : Int) (g : Nat) (w0 : World) (e : Ending) (w' : World) : Prop :=
  ∃ b, e = .returned (.bool b) ∧ (b = true ↔ IsOk n x ∧ (x.size : Int) ≤ L) ∧ Below w0.heap.size w0 w' ∧ (b = true → LeftAt w' g (L - x.size))
theorem okPost_no {n : Nat} {x : Fm} {L : Int} {g : Nat} {w0 w' : World} (h : ¬ (IsOk n x ∧ (x.size : Int) ≤ L)) (hb : Below w0.heap.size w0 w') : OkPost n x L g w0 (.returned (.bool false)) w' :=
  ⟨false, rfl, ⟨(fun h => nomatch h), (fun h2 => absurd h2 h)⟩, hb, (fun h => nomatch h)⟩
theorem okPost_yes {n : Nat} {x : Fm} {L : Int} {g : Nat} {w0 w' : World} (h : IsOk n x ∧ (x.size : Int) ≤ L) (hb : Below w0.heap.size w0 w') (hl : LeftAt w' g (L - x.size)) : OkPost n x L g w0 (.returned (.bool true)) w' :=
  ⟨true, rfl, ⟨fun _ => h, fun _ => rfl⟩, hb, fun _ => hl⟩
set_option maxHeartbeats 8000000 in
set_option maxRecDepth 100000 in
theorem formOk_any : ∀ (n : Nat) (x : Fm) (A3 : Option Addr) (c3 : Nat) (A4 : Option Addr) (c4 : Nat) (d L : Int) (g : Nat) (w0 w : World), d + n = 41 → 1 ≤ d → 0 ≤ L → L ≤ 400 → x.tot ≤ 1048576 → FmIn w0 x A3 c3 A4 c4 → Below w0.heap.size w0 w → w0.heap.size ≤ g → LeftAt w g L →
    Calls Try.prog 119 #[.agg #[.int .i64 x.f0, .string x.f1, .int .i64 x.f2, .slice A3 x.f3.length c3, .slice A4 x.f4.length c4], .int .i64 d, .pointer (some ⟨g, 0, none⟩)] w (OkPost n x L g w0) := by
  intro n
  induction n with
  | zero =>
    intro x A3 c3 A4 c4 d L g w0 w hd hd1 hL0 hL1 ht hin hb hg hl
    have hgw : g < w.heap.size := by
      rcases Nat.lt_or_ge g w.heap.size with h | h
      · exact h
      · unfold LeftAt at hl; rw [Array.getElem?_eq_none h] at hl; cases hl
    have ka := blk_below hl (below_new w (.cells #[.int .i64 x.f0, .string x.f1, .int .i64 x.f2, .slice A3 x.f3.length c3, .slice A4 x.f4.length c4] 29))
    have hk0 := (blk_cell ka 0).trans (show _ = some (Value.int .i64 L) from rfl)
    have hf0 := blk_frozen ka 0
    have ks := blk_below (blk_set hl 0 (.int .i64 (L - 1))) (below_new (w.setCell ⟨g, 0, none⟩ (.int .i64 (L - 1))) (.cells #[.int .i64 x.f0, .string x.f1, .int .i64 x.f2, .slice A3 x.f3.length c3, .slice A4 x.f4.length c4] 29))
    have hk1 := (blk_cell ks 0).trans (show _ = some (Value.int .i64 (L - 1)) from by simp)
    have HB := Lib.hid (below_step (Below.setCell hb (p := ⟨g, 0, none⟩) hg (.int .i64 (L - 1))) (below_new (w.setCell ⟨g, 0, none⟩ (.int .i64 (L - 1))) (.cells #[.int .i64 x.f0, .string x.f1, .int .i64 x.f2, .slice A3 x.f3.length c3, .slice A4 x.f4.length c4] 29)))
    have h40 : d > 40 := by omega
    have t2 : decide (d > 40) = true := decide_eq_true (by omega)
    have t2' : decide (40 < d) = true := decide_eq_true (by omega)
    clear hin ht hb hl ka ks hd
    by_cases h0 : L - 1 < 0
    · have t1 : decide (L - 1 < 0) = true := decide_eq_true h0
      clear h0
      go_enter Try.func119, Try.ntmps119
      go_wp2_with fail


      go_ret
      exact okPost_no (fun h => h.1) HB.out
    · have t1 : decide (L - 1 < 0) = false := decide_eq_false h0
      clear h0
      go_enter Try.func119, Try.ntmps119
      go_wp2_with fail
      go_ret
      exact okPost_no (fun h => h.1) HB.out
  | succ n ih =>
    intro x A3 c3 A4 c4 d L g w0 w hd hd1 hL0 hL1 ht hin hb hg hl
    have hgw : g < w.heap.size := by
      rcases Nat.lt_or_ge g w.heap.size with h | h
      · exact h
      · unfold LeftAt at hl; rw [Array.getElem?_eq_none h] at hl; cases hl
    have ka := blk_below hl (below_new w (.cells #[.int .i64 x.f0, .string x.f1, .int .i64 x.f2, .slice A3 x.f3.length c3, .slice A4 x.f4.length c4] 29))
    have hk0 := (blk_cell ka 0).trans (show _ = some (Value.int .i64 L) from rfl)
    have hf0 := blk_frozen ka 0
    have ks := blk_below (blk_set hl 0 (.int .i64 (L - 1))) (below_new (w.setCell ⟨g, 0, none⟩ (.int .i64 (L - 1))) (.cells #[.int .i64 x.f0, .string x.f1, .int .i64 x.f2, .slice A3 x.f3.length c3, .slice A4 x.f4.length c4] 29))
    have hk1 := (blk_cell ks 0).trans (show _ = some (Value.int .i64 (L - 1)) from by simp)
    have KS : LeftAt ((w.setCell ⟨g, 0, none⟩ (.int .i64 (L - 1))).alloc (.cells #[.int .i64 x.f0, .string x.f1, .int .i64 x.f2, .slice A3 x.f3.length c3, .slice A4 x.f4.length c4] 29)) g (L - 1) := by simpa [LeftAt] using ks
    have hz0 := blk_new (w.setCell ⟨g, 0, none⟩ (.int .i64 (L - 1))) (.cells #[.int .i64 x.f0, .string x.f1, .int .i64 x.f2, .slice A3 x.f3.length c3, .slice A4 x.f4.length c4] 29)
    rw [show (w.setCell ⟨g, 0, none⟩ (.int .i64 (L - 1))).heap.size = w.heap.size from by simp] at hz0
    have HB0 := below_step (Below.setCell hb (p := ⟨g, 0, none⟩) hg (.int .i64 (L - 1))) (below_new (w.setCell ⟨g, 0, none⟩ (.int .i64 (L - 1))) (.cells #[.int .i64 x.f0, .string x.f1, .int .i64 x.f2, .slice A3 x.f3.length c3, .slice A4 x.f4.length c4] 29))
    have HB := Lib.hid HB0
    have hsz := Fm.size_eq x
    have hmax := hin.g4.2.1
    by_cases h0 : L - 1 < 0
    · have t1 : decide (L - 1 < 0) = true := decide_eq_true h0
      have H0 := Lib.hid (show ¬ ((x.size : Int) ≤ L) by omega)
      clear h0 hin ht hb hl ka ks hd hsz hz0 HB0 ih KS
      go_enter Try.func119, Try.ntmps119
      go_wp2_with fail
      go_ret
      exact okPost_no (fun h => by have h1 := H0.out; have h2 := h.2; omega) HB.out
    have t1 : decide (L - 1 < 0) = false := decide_eq_false h0
    have hd40 : d ≤ 40 := by omega
    have t2 : decide (d > 40) = false := decide_eq_false (by omega)
    have t2' : decide (40 < d) = false := decide_eq_false (by omega)
    have HD := Lib.hid hd
    have HI := Lib.hid (hin.below HB0)
    have HI0 := Lib.hid hin
    have HT := Lib.hid ht
    have IH := Lib.hid ih
    have HSZ := Lib.hid hsz
    have HKS := Lib.hid KS
    have HZ0 := Lib.hid hz0
    have HNm := Lib.hid (implName_any x.f1 ((w.setCell ⟨g, 0, none⟩ (.int .i64 (L - 1))).alloc (.cells #[.int .i64 x.f0, .string x.f1, .int .i64 x.f2, .slice A3 x.f3.length c3, .slice A4 x.f4.length c4] 29)) (name_size ht))
    have HWi := Lib.hid (within_any x.f2 0 999 ((w.setCell ⟨g, 0, none⟩ (.int .i64 (L - 1))).alloc (.cells #[.int .i64 x.f0, .string x.f1, .int .i64 x.f2, .slice A3 x.f3.length c3, .slice A4 x.f4.length c4] 29)))
    clear hd hin ht ih hsz KS ks hb hl ka HB0
    by_cases k1 : x.f0 = 1
    · have e1 : (x.f0 == 1) = true := by simpa using k1
      have K1 := Lib.hid k1
      clear k1 HWi hz0
      go_enter Try.func119, Try.ntmps119
      go_wp2_with fail
      refine HNm.out.mono ?_
      rintro e w1 ⟨rfl, hb1⟩
      have z1 := blk_below HZ0.out hb1
      have l1 := blk_below HKS.out hb1
      obtain ⟨p0, p1, p2, p3, p4⟩ := fm_cells z1
      have B1 := Lib.hid (below_step HB.out hb1)
      have HS := Lib.hid (scopesOk_any x.f3 A3 c3 w1 (Kd.C_below HI0.out.g3 B1.out) HI0.out.l3)
      clear hb1
      cases hq : nmB x.f1 with
      | false =>
        have HQ := Lib.hid hq
        clear hq
        go_wp2_with fail
        go_ret
        exact okPost_no (fun h => by have := nmB_t ((isOk1 K1.out).1 h.1).1; rw [HQ.out] at this; cases this) B1.out
      | true =>
        have HQ := Lib.hid hq
        clear hq
        by_cases h2 : x.f2 = 0
        · have t3 : (x.f2 == 0) = true := by simpa using h2
          have H2 := Lib.hid h2
          clear h2
          go_wp2_with fail
          refine HS.out.mono ?_
          rintro e w2 ⟨rfl, hb2⟩
          have z2 := blk_below z1 hb2
          have L2 := Lib.hid (blk_below l1 hb2)
          have B2 := Lib.hid (below_step B1.out hb2)
          clear hb2 z1 l1 p0 p1 p2 p3 p4
          obtain ⟨p0, p1, p2, p3, p4⟩ := fm_cells z2
          cases hq : pB (ScOk x.f3) with
          | false =>
            have HQ2 := Lib.hid hq
            clear hq
            go_wp2_with fail
            go_ret
            exact okPost_no (fun h => by have := pB_yes ((isOk1 K1.out).1 h.1).2.2.1; rw [HQ2.out] at this; cases this) B2.out
          | true =>
            have HQ2 := Lib.hid hq
            clear hq
            by_cases h3 : x.f4.length = 0
            · have t4 : ((x.f4.length : Int) == 0) = true := by rw [beq_iff_eq]; omega
              have H3 := Lib.hid h3
              have H0 := Lib.hid h0
              clear h3 h0
              go_wp2_with fail
              go_ret
              have hs1 : x.size = 1 := by have h1 := HSZ.out; rw [List.length_eq_zero_iff.1 H3.out] at h1; exact h1
              have hc1 : (x.size : Int) = 1 := by omega
              exact okPost_yes ⟨(isOk1 K1.out).2 ⟨(nmB_iff _).1 HQ.out, H2.out, pB_iff.1 HQ2.out, H3.out⟩, by have := H0.out; omega⟩ B2.out (by rw [hc1]; exact L2.out)
            · have t4 : ((x.f4.length : Int) == 0) = false := by rw [beq_eq_false_iff_ne]; omega
              have H3 := Lib.hid h3
              clear h3
              go_wp2_with fail
              go_ret
              exact okPost_no (fun h => H3.out ((isOk1 K1.out).1 h.1).2.2.2) B2.out
        · have t3 : (x.f2 == 0) = false := by simpa using h2
          have H2 := Lib.hid h2
          clear h2
          go_wp2_with fail
          go_ret
          exact okPost_no (fun h => H2.out ((isOk1 K1.out).1 h.1).2.1) B1.out
    have e1 : (x.f0 == 1) = false := by simpa using k1
    have K1 := Lib.hid k1
    clear k1 HNm
    obtain ⟨p0, p1, p2, p3, p4⟩ := fm_cells hz0
    by_cases k2 : x.f0 = 2
    · have e2 : (x.f0 == 2) = true := by simpa using k2
      have K2 := Lib.hid k2
      clear k2 hz0
      go_enter Try.func119, Try.ntmps119
      by_cases h1 : x.f1.toList = []
      · have t3 : (x.f1.toList == []) = true := by rw [h1]; rfl
        have H1 := Lib.hid h1
        clear h1
        go_wp2_with fail
        refine HWi.out.mono ?_
        rintro e w1 ⟨rfl, hb1⟩
        have z1 := blk_below HZ0.out hb1
        have L1 := Lib.hid (blk_below HKS.out hb1)
        have B1 := Lib.hid (below_step HB.out hb1)
        clear hb1 p0 p1 p2 p3 p4
        obtain ⟨p0, p1, p2, p3, p4⟩ := fm_cells z1
        by_cases h2 : 0 ≤ x.f2 ∧ x.f2 ≤ 999
        · rw [decide_eq_true h2]
          have H2 := Lib.hid h2
          clear h2
          by_cases h4 : x.f3.length = 0
          · have t4 : ((x.f3.length : Int) == 0) = true := by rw [beq_iff_eq]; omega
            have H4 := Lib.hid h4
            clear h4
            by_cases h5 : x.f4.length = 0
            · have t5 : ((x.f4.length : Int) == 0) = true := by rw [beq_iff_eq]; omega
              have H5 := Lib.hid h5
              have H0 := Lib.hid h0
              clear h5 h0
              go_wp2_with fail
              go_ret
              have hs1 : x.size = 1 := by have h1 := HSZ.out; rw [List.length_eq_zero_iff.1 H5.out] at h1; exact h1
              have hc1 : (x.size : Int) = 1 := by omega
              exact okPost_yes ⟨(isOk2 K2.out).2 ⟨H1.out, H2.out.1, H2.out.2, H4.out, H5.out⟩, by have := H0.out; omega⟩ B1.out (by rw [hc1]; exact L1.out)
            · have t5 : ((x.f4.length : Int) == 0) = false := by rw [beq_eq_false_iff_ne]; omega
              have H5 := Lib.hid h5
              clear h5
              go_wp2_with fail
              go_ret
              exact okPost_no (fun h => H5.out ((isOk2 K2.out).1 h.1).2.2.2.2) B1.out
          · have t4 : ((x.f3.length : Int) == 0) = false := by rw [beq_eq_false_iff_ne]; omega
            have H4 := Lib.hid h4
            clear h4
            go_wp2_with fail
            go_ret
            exact okPost_no (fun h => H4.out ((isOk2 K2.out).1 h.1).2.2.2.1) B1.out
        · rw [decide_eq_false h2]
          have H2 := Lib.hid h2
          clear h2
          go_wp2_with fail
          go_ret
          exact okPost_no (fun h => H2.out ⟨((isOk2 K2.out).1 h.1).2.1, ((isOk2 K2.out).1 h.1).2.2.1⟩) B1.out
      · have t3 : (x.f1.toList == []) = false := by rw [beq_eq_false_iff_ne]; exact h1
        have H1 := Lib.hid h1
        clear h1
        go_wp2_with fail
        go_ret
        exact okPost_no (fun h => H1.out ((isOk2 K2.out).1 h.1).1) HB.out
    have e2 : (x.f0 == 2) = false := by simpa using k2
    have K2 := Lib.hid k2
    clear k2 HWi
    by_cases k3 : x.f0 = 3
    · have e3 : (x.f0 == 3) = true := by simpa using k3
      have K3 := Lib.hid k3
      clear k3
      go_enter Try.func119, Try.ntmps119
      by_cases h1 : x.f1.toList = []
      · have t3 : (x.f1.toList != []) = false := by rw [h1]; rfl
        have t3' : (x.f1.toList == []) = true := by rw [h1]; rfl
        have H1 := Lib.hid h1
        clear h1
        by_cases h2 : x.f2 = 0
        · have t4 : (x.f2 != 0) = false := by simpa using h2
          have H2 := Lib.hid h2
          clear h2
          by_cases h4 : x.f3.length = 0
          · have t5 : decide ((x.f3.length : Int) > 0) = false := decide_eq_false (by omega)
            have t5' : decide ((0 : Int) < (x.f3.length : Int)) = false := decide_eq_false (by omega)
            have t5'' : decide (0 < x.f3.length) = false := decide_eq_false (by omega)
            have H4 := Lib.hid h4
            clear h4
            go_wp2_with fail
            go_loopg [8, 86] x.f4.length (fun kq v8 v86 w' => ∃ i : Nat, i ≤ x.f4.length ∧ x.f4.length - i ≤ kq ∧ v86 = .int .i64 i ∧ Aside0 (∀ j (h : j < x.f4.length), j < i → IsOk n x.f4[j]) ∧ Aside0 (Below w0.heap.size w0 w') ∧ Aside0 (LeftAt w' g (L - 1 - sizes (x.f4.take i))) ∧ Aside0 (0 ≤ L - 1 - (sizes (x.f4.take i) : Int)))
            case atStart => exact ⟨0, Nat.zero_le _, by omega, rfl, ⟨fun j _ h => absurd h (by omega)⟩, ⟨HB.out⟩, ⟨by simpa [sizes] using HKS.out⟩, ⟨by simp [sizes]; omega⟩⟩
            case round =>
              obtain ⟨i, hi, hg2, rfl, HN, HW, HL, HP⟩ := hrel
              by_cases hlt : i < x.f4.length
              · obtain ⟨ad, G3, m3, G4, m4, e, g0, g1, g2, g3, g4, hk⟩ := kid_at HI0.out.g4 i hlt
                subst e
                have q0 := ck0 HW.out g0
                have q1 := ck0 HW.out g1
                have q2 := ck0 HW.out g2
                have q3 := ck0 HW.out g3
                have q4 := ck0 HW.out g4
                have hst := sizes_take x.f4 i hlt
                have hle := sizes_take_le x.f4 (i + 1)
                have hP := HP.out
                have hfr : w0.heap.size ≤ wr.heap.size := HW.out.size
                have HC := Lib.hid (IH.out x.f4[i] G3 m3 G4 m4 (d + 1) (L - 1 - (sizes (x.f4.take i) : Int)) g w0 (wr.alloc (.cells #[.int .i64 x.f4[i].f0, .string x.f4[i].f1, .int .i64 x.f4[i].f2, .slice G3 x.f4[i].f3.length m3, .slice G4 x.f4[i].f4.length m4] 29)) (by have := HD.out; omega) (by omega) hP (by omega) (kid_tot HT.out (List.getElem_mem hlt)) hk (below_step HW.out (below_new _ _)) hg (blk_below HL.out (below_new _ _)))
                have HST := Lib.hid hst
                have HLE := Lib.hid hle
                clear hk g0 g1 g2 g3 g4 hst hle hP hfr
                go_wp2_with fail
                refine HC.out.mono ?_
                intro e w1 hpost
                obtain ⟨b, rfl, hiff, hb1, hl1⟩ := hpost
                have HF := Lib.hid hiff
                have HB1 := Lib.hid hb1
                have HL1 := Lib.hid hl1
                clear hiff hb1 hl1
                cases b with
                | true =>
                  go_wp2_with fail
                  go_roundg (x.f4.length - (i + 1))
                  case measure => omega
                  case rel =>
                    have h1 := HST.out
                    have h2 := HF.out.1 (by simp)
                    have h3 := HL1.out (by simp)
                    refine ⟨i + 1, by omega, Nat.le_refl _, by go_num, ⟨fun j hj hji => ?_⟩, ⟨HB1.out⟩, ⟨?_⟩, ⟨by rw [h1]; omega⟩⟩
                    · rcases Nat.lt_or_ge j i with h | h
                      · exact HN.out j hj h
                      · obtain rfl : j = i := by omega
                        exact h2.1
                    · rw [h1, show L - 1 - ((sizes (x.f4.take i) + x.f4[i].size : Nat) : Int) = L - 1 - (sizes (x.f4.take i) : Int) - (x.f4[i].size : Int) from by omega]
                      exact h3
                | false =>
                  go_wp2_with fail
                  go_ret
                  refine okPost_no (fun h => ?_) HB1.out
                  have h1 := HF.out.2 ⟨((isOk3 K1.out K2.out).1 h.1).2.2.2.2 _ (List.getElem_mem hlt), by have h1 := HST.out; have h2 := HLE.out; have h3 := HSZ.out; have h4 := h.2; omega⟩
                  cases h1
              · obtain rfl : i = x.f4.length := by omega
                go_wp2_with fail
                go_ret
                have hsum : (x.size : Int) = 1 + (sizes x.f4 : Int) := by have := HSZ.out; omega
                have hP := HP.out
                have hL := HL.out
                rw [List.take_length] at hP hL
                refine okPost_yes ⟨(isOk3 K1.out K2.out).2 ⟨K3.out, H1.out, H2.out, H4.out, fun k hk => ?_⟩, by omega⟩ HW.out (by rw [show L - (x.size : Int) = L - 1 - (sizes x.f4 : Int) from by omega]; exact hL)
                obtain ⟨j, hj, rfl⟩ := List.getElem_of_mem hk
                exact HN.out j hj hj
          · have t5 : decide ((x.f3.length : Int) > 0) = true := decide_eq_true (by omega)
            have t5' : decide ((0 : Int) < (x.f3.length : Int)) = true := decide_eq_true (by omega)
            have t5'' : decide (0 < x.f3.length) = true := decide_eq_true (by omega)
            have H4 := Lib.hid h4
            clear h4
            go_wp2_with fail
            go_ret
            exact okPost_no (fun h => H4.out ((isOk3 K1.out K2.out).1 h.1).2.2.2.1) HB.out
        · have t4 : (x.f2 != 0) = true := by simpa using h2
          have H2 := Lib.hid h2
          clear h2
          go_wp2_with fail
          go_ret
          exact okPost_no (fun h => H2.out ((isOk3 K1.out K2.out).1 h.1).2.2.1) HB.out
      · have t3 : (x.f1.toList != []) = true := by rw [bne_iff_ne]; exact h1
        have t3' : (x.f1.toList == []) = false := by rw [beq_eq_false_iff_ne]; exact h1
        have H1 := Lib.hid h1
        clear h1
        go_wp2_with fail
        go_ret
        exact okPost_no (fun h => H1.out ((isOk3 K1.out K2.out).1 h.1).2.1) HB.out
    have e3 : (x.f0 == 3) = false := by simpa using k3
    have K3 := Lib.hid k3
    clear k3
    go_enter Try.func119, Try.ntmps119
    go_wp2_with fail
    go_ret
    exact okPost_no (fun h => K3.out ((isOk3 K1.out K2.out).1 h.1).1) HB.out
theorem implValid_any (x : Fm) (A3 : Option Addr) (c3 : Nat) (A4 : Option Addr) (c4 : Nat) (w : World) (hin : FmIn w x A3 c3 A4 c4) (ht : x.tot ≤ 1048576) :
    Calls Try.prog 75 #[.agg #[.int .i64 x.f0, .string x.f1, .int .i64 x.f2, .slice A3 x.f3.length c3, .slice A4 x.f4.length c4]] w (Ret w (.bool (pB (FmOk x)))) := by
  have hb := below_step (below_new w (.cells #[.int .i64 x.f0, .string x.f1, .int .i64 x.f2, .slice A3 x.f3.length c3, .slice A4 x.f4.length c4] 29)) (below_new _ (.cells #[.int .i64 400] 3))
  have hl := blk_new (w.alloc (.cells #[.int .i64 x.f0, .string x.f1, .int .i64 x.f2, .slice A3 x.f3.length c3, .slice A4 x.f4.length c4] 29)) (.cells #[.int .i64 400] 3)
  rw [show (w.alloc (.cells #[.int .i64 x.f0, .string x.f1, .int .i64 x.f2, .slice A3 x.f3.length c3, .slice A4 x.f4.length c4] 29)).heap.size = w.heap.size + 1 from by simp] at hl
  have HC := Lib.hid (formOk_any 40 x A3 c3 A4 c4 1 400 (w.heap.size + 1) w _ (by omega) (by omega) (by omega) (by omega) ht hin hb (by omega) hl)
  clear hin ht hb hl
  go_enter Try.func75, Try.ntmps75
  go_wp2_with fail
  refine HC.out.mono ?_
  intro e w1 hpost
  obtain ⟨b, rfl, hiff, hb1, hl1⟩ := hpost
  have hv : b = pB (FmOk x) := pB_of ⟨fun h => ⟨(hiff.1 h).1, by have := (hiff.1 h).2; omega⟩, fun h => hiff.2 ⟨h.1, by have := h.2; omega⟩⟩
  have HV := Lib.hid hv
  have HB1 := Lib.hid hb1
  clear hiff hb1 hl1 hv HC
  go_wp2_with fail
  go_ret
  exact ⟨ret_b HV.out, HB1.out⟩
end Go.Proofs.Ytnaefjilcabkoaa
end
section
namespace Go.Proofs.Ytnaefjilcabkoaa
open Go.RowKit Go.Proofs.YtnaefjilcabkoaaW.PrintWords Go.Proofs.YtnaefjilcabkoaaW.PrintLast Go.Proofs.YtnaefjilcabkoaaW.PrintMore
set_option linter.unusedVariables false
set_option linter.unusedSimpArgs false

set_option maxHeartbeats 1000000 in
theorem l1Ints_any (xs ys : List Int) (A B : Option Addr) (c d : Nat) (w : World) (hr : kI.C w A xs.length xs) (hc : xs.length ≤ c) (hr2 : kI.C w B ys.length ys) (hc2 : ys.length ≤ d) :
    Calls Try.prog 89 #[.slice A xs.length c, .slice B ys.length d] w (Ret w (.bool (decide (xs = ys)))) := by
  have hmax := hr.2.1
  by_cases hl : xs.length = ys.length
  · have hl1 : ((xs.length : Int) == (ys.length : Int)) = true := by simp [hl]
    have hl2 : ((xs.length : Int) != (ys.length : Int)) = false := by simp [hl]
    have hl3 : (xs.length == ys.length) = true := by simp [hl]
    have hl4 : (xs.length != ys.length) = false := by simp [hl]
    have HL := Lib.hid hl
    clear hl
    go_enter Try.func89, Try.ntmps89
    go_wp2_with fail
    go_loopg [5] xs.length (fun kq v5 w' => ∃ i : Nat, i ≤ xs.length ∧ xs.length - i ≤ kq ∧ v5 = .int .i64 i ∧ Aside0 (∀ j (h : j < xs.length) (h2 : j < ys.length), j < i → xs[j] = ys[j]) ∧ Aside0 (Below w.heap.size w w'))
    case atStart => exact ⟨0, Nat.zero_le _, by omega, rfl, ⟨fun j _ _ h => absurd h (by omega)⟩, ⟨Below.refl _ _⟩⟩
    case round =>
      obtain ⟨i, hi, hg, rfl, HN, HW⟩ := hrel
      by_cases hlt : i < xs.length
      · have hlt2 : i < ys.length := by have := HL.out; omega
        obtain ⟨ad, e, hcell⟩ := int_at (Kd.C_below hr HW.out) i hlt
        subst e
        obtain ⟨ad2, e2, hcell2⟩ := int_at (Kd.C_below hr2 HW.out) i hlt2
        subst e2
        by_cases he : xs[i] = ys[i]
        · have hb1 : (xs[i] == ys[i]) = true := by simpa using he
          have hb2 : (xs[i] != ys[i]) = false := by simpa using he
          have HE := Lib.hid he
          clear he
          go_wp2_with fail
          go_quiet (fail)
          go_wp2_with fail
          go_roundg (xs.length - (i + 1))
          case measure => omega
          case rel =>
            refine ⟨i + 1, by omega, Nat.le_refl _, by go_num, ⟨fun j hj hj2 hji => ?_⟩, ⟨pw_below_drewN HW.out _⟩⟩
            rcases Nat.lt_or_ge j i with h | h
            · exact HN.out j hj hj2 h
            · obtain rfl : j = i := by omega
              exact HE.out
        · have hb1 : (xs[i] == ys[i]) = false := by simpa using he
          have hb2 : (xs[i] != ys[i]) = true := by simpa using he
          have HE := Lib.hid he
          clear he
          go_wp2_with fail
          go_quiet (fail)
          go_wp2_with fail
          go_ret
          refine ⟨ret_b (decide_eq_false (fun h => HE.out ?_)).symm, pw_below_drewN HW.out _⟩
          subst h
          rfl
      · obtain rfl : i = xs.length := by omega
        go_wp2_with fail
        go_ret
        refine ⟨ret_b (decide_eq_true (List.ext_getElem HL.out (fun j hj hj2 => HN.out j hj hj2 hj))).symm, HW.out⟩
  · have hl1 : ((xs.length : Int) == (ys.length : Int)) = false := by simp; omega
    have hl2 : ((xs.length : Int) != (ys.length : Int)) = true := by simp; omega
    have hl3 : (xs.length == ys.length) = false := by simp [hl]
    have hl4 : (xs.length != ys.length) = true := by simp [hl]
    have HL := Lib.hid hl
    clear hl
    go_enter Try.func89, Try.ntmps89
    go_wp2_with fail
    go_ret
    exact ⟨ret_b (decide_eq_false (fun h => HL.out (by rw [h]))).symm, Below.refl _ _⟩
set_option maxHeartbeats 1000000 in
theorem equalI_any (xs ys : List Int) (A B : Option Addr) (c d : Nat) (w : World) (hr : kI.C w A xs.length xs) (hc : xs.length ≤ c) (hr2 : kI.C w B ys.length ys) (hc2 : ys.length ≤ d) :
    Calls Try.prog 96 #[.slice A xs.length c, .slice B ys.length d] w (Ret w (.bool (decide (xs = ys)))) := by
  have hmax := hr.2.1
  by_cases hl : xs.length = ys.length
  · have hl1 : ((xs.length : Int) == (ys.length : Int)) = true := by simp [hl]
    have hl2 : ((xs.length : Int) != (ys.length : Int)) = false := by simp [hl]
    have hl3 : (xs.length == ys.length) = true := by simp [hl]
    have hl4 : (xs.length != ys.length) = false := by simp [hl]
    have HL := Lib.hid hl
    clear hl
    go_enter Try.func96, Try.ntmps96
    go_wp2_with fail
    go_loopg [5, 13] xs.length (fun kq v5 v13 w' => ∃ i : Nat, i ≤ xs.length ∧ xs.length - i ≤ kq ∧ v13 = .int .i64 i ∧ Aside0 (∀ j (h : j < xs.length) (h2 : j < ys.length), j < i → xs[j] = ys[j]) ∧ Aside0 (Below w.heap.size w w'))
    case atStart => exact ⟨0, Nat.zero_le _, by omega, rfl, ⟨fun j _ _ h => absurd h (by omega)⟩, ⟨Below.refl _ _⟩⟩
    case round =>
      obtain ⟨i, hi, hg, rfl, HN, HW⟩ := hrel
      by_cases hlt : i < xs.length
      · have hlt2 : i < ys.length := by have := HL.out; omega
        obtain ⟨ad, e, hcell⟩ := int_at (Kd.C_below hr HW.out) i hlt
        subst e
        obtain ⟨ad2, e2, hcell2⟩ := int_at (Kd.C_below hr2 HW.out) i hlt2
        subst e2
        by_cases he : xs[i] = ys[i]
        · have hb1 : (xs[i] == ys[i]) = true := by simpa using he
          have hb2 : (xs[i] != ys[i]) = false := by simpa using he
          have HE := Lib.hid he
          clear he
          go_wp2_with fail
          go_quiet (fail)
          go_wp2_with fail
          go_roundg (xs.length - (i + 1))
          case measure => omega
          case rel =>
            refine ⟨i + 1, by omega, Nat.le_refl _, by go_num, ⟨fun j hj hj2 hji => ?_⟩, ⟨pw_below_drewN HW.out _⟩⟩
            rcases Nat.lt_or_ge j i with h | h
            · exact HN.out j hj hj2 h
            · obtain rfl : j = i := by omega
              exact HE.out
        · have hb1 : (xs[i] == ys[i]) = false := by simpa using he
          have hb2 : (xs[i] != ys[i]) = true := by simpa using he
          have HE := Lib.hid he
          clear he
          go_wp2_with fail
          go_quiet (fail)
          go_wp2_with fail
          go_ret
          refine ⟨ret_b (decide_eq_false (fun h => HE.out ?_)).symm, pw_below_drewN HW.out _⟩
          subst h
          rfl
      · obtain rfl : i = xs.length := by omega
        go_wp2_with fail
        go_ret
        refine ⟨ret_b (decide_eq_true (List.ext_getElem HL.out (fun j hj hj2 => HN.out j hj hj2 hj))).symm, HW.out⟩
  · have hl1 : ((xs.length : Int) == (ys.length : Int)) = false := by simp; omega
    have hl2 : ((xs.length : Int) != (ys.length : Int)) = true := by simp; omega
    have hl3 : (xs.length == ys.length) = false := by simp [hl]
    have hl4 : (xs.length != ys.length) = true := by simp [hl]
    have HL := Lib.hid hl
    clear hl
    go_enter Try.func96, Try.ntmps96
    go_wp2_with fail
    go_ret
    exact ⟨ret_b (decide_eq_false (fun h => HL.out (by rw [h]))).symm, Below.refl _ _⟩
def SpecSame (x : Fm) : Prop := ∀ (y : Fm) (A3 : Option Addr) (c3 : Nat) (A4 : Option Addr) (c4 : Nat) (B3 : Option Addr) (d3 : Nat) (B4 : Option Addr) (d4 : Nat) (w : World), FmIn w x A3 c3 A4 c4 → FmIn w y B3 d3 B4 d4 →
    Calls Try.prog 100 #[.agg #[.int .i64 x.f0, .string x.f1, .int .i64 x.f2, .slice A3 x.f3.length c3, .slice A4 x.f4.length c4], .agg #[.int .i64 y.f0, .string y.f1, .int .i64 y.f2, .slice B3 y.f3.length d3, .slice B4 y.f4.length d4]] w (Ret w (.bool (eqB x y)))
set_option maxHeartbeats 4000000 in
set_option maxRecDepth 100000 in
theorem specSame_any (x : Fm) : SpecSame x := by
  induction x using Fm.ind with
  | h x ih =>
    intro y A3 c3 A4 c4 B3 d3 B4 d4 w hx hy
    have HX := Lib.hid (fun (h1 : x.f0 = y.f0) (h2 : x.f1 = y.f1) (h3 : x.f2 = y.f2) (h4 : x.f3 = y.f3) (h5 : x.f4 = y.f4) => Fm.ext' h1 h2 h3 h4 h5)
    have hb1 := below_new w (.cells #[.int .i64 x.f0, .string x.f1, .int .i64 x.f2, .slice A3 x.f3.length c3, .slice A4 x.f4.length c4] 29)
    have hb2 := below_step hb1 (below_new _ (.cells #[.int .i64 y.f0, .string y.f1, .int .i64 y.f2, .slice B3 y.f3.length d3, .slice B4 y.f4.length d4] 29))
    have HB := Lib.hid hb2
    by_cases e1 : x.f0 = y.f0
    · have t1 : (x.f0 == y.f0) = true := by simpa using e1
      have t1' : (x.f0 != y.f0) = false := by simpa using e1
      have E1 := Lib.hid e1
      clear e1
      by_cases e2 : x.f1 = y.f1
      · have t2 : (x.f1.toList == y.f1.toList) = true := by rw [e2]; simp
        have t2' : (x.f1.toList != y.f1.toList) = false := by rw [e2]; simp
        have E2 := Lib.hid e2
        clear e2
        by_cases e3 : x.f2 = y.f2
        · have t3 : (x.f2 == y.f2) = true := by simpa using e3
          have t3' : (x.f2 != y.f2) = false := by simpa using e3
          have E3 := Lib.hid e3
          clear e3
          have HC := Lib.hid (l1Ints_any x.f3 y.f3 A3 B3 c3 d3 _ (Kd.C_below hx.g3 hb2) hx.l3 (Kd.C_below hy.g3 hb2) hy.l3)
          have HK := Lib.hid (fun (k : Fm) (h : k ∈ x.f4) => ih k h)
          have HXY := Lib.hid (And.intro hx hy)
          have hmax := hx.g4.2.1
          clear ih hx hy hb1 hb2
          go_enter Try.func100, Try.ntmps100
          go_wp2_with fail
          refine HC.out.mono ?_
          rintro e w1 ⟨rfl, k1⟩
          have hz := blk_below (blk_below (blk_new w (.cells #[.int .i64 x.f0, .string x.f1, .int .i64 x.f2, .slice A3 x.f3.length c3, .slice A4 x.f4.length c4] 29)) (below_new _ _)) k1
          have hz2 := blk_below (blk_new (w.alloc (.cells #[.int .i64 x.f0, .string x.f1, .int .i64 x.f2, .slice A3 x.f3.length c3, .slice A4 x.f4.length c4] 29)) (.cells #[.int .i64 y.f0, .string y.f1, .int .i64 y.f2, .slice B3 y.f3.length d3, .slice B4 y.f4.length d4] 29)) k1
          rw [show (w.alloc (.cells #[.int .i64 x.f0, .string x.f1, .int .i64 x.f2, .slice A3 x.f3.length c3, .slice A4 x.f4.length c4] 29)).heap.size = w.heap.size + 1 from by simp] at hz2
          obtain ⟨_, _, _, _, q4⟩ := fm_cells hz
          obtain ⟨_, _, _, _, r4⟩ := fm_cells hz2
          have K1 := Lib.hid (below_step HB.out k1)
          clear hz hz2 k1
          by_cases e4 : x.f3 = y.f3
          · have E4 := Lib.hid e4
            rw [decide_eq_true e4]
            clear e4
            by_cases hl : x.f4.length = y.f4.length
            · have hl1 : ((x.f4.length : Int) == (y.f4.length : Int)) = true := by simp [hl]
              have hl2 : ((x.f4.length : Int) != (y.f4.length : Int)) = false := by simp [hl]
              have HL := Lib.hid hl
              have C1 := Lib.hid (Kd.C_below HXY.out.1.g4 K1.out)
              have C2 := Lib.hid (Kd.C_below HXY.out.2.g4 K1.out)
              clear hl
              go_wp2_with fail
              go_loopg [5] x.f4.length (fun kq v5 w' => ∃ i : Nat, i ≤ x.f4.length ∧ x.f4.length - i ≤ kq ∧ v5 = .int .i64 i ∧ Aside0 (∀ j (h : j < x.f4.length) (h2 : j < y.f4.length), j < i → x.f4[j] = y.f4[j]) ∧ Aside0 (Below w1.heap.size w1 w'))
              case atStart => exact ⟨0, Nat.zero_le _, by omega, rfl, ⟨fun j _ _ h => absurd h (by omega)⟩, ⟨Below.refl _ _⟩⟩
              case round =>
                obtain ⟨i, hi, hg, rfl, HN, HW⟩ := hrel
                have q6 := ck0 HW.out q4
                by_cases hlt : i < x.f4.length
                · have hlt2 : i < y.f4.length := by have := HL.out; omega
                  obtain ⟨ad, G3, m3, G4, m4, e, g0, g1, g2, g3, g4, hk⟩ := kid_at (Kd.C_below C1.out HW.out) i hlt
                  subst e
                  obtain ⟨ad2, E3, f3, E4, f4, e2, h0, h1, h2, h3, h4, hk2⟩ := kid_at (Kd.C_below C2.out HW.out) i hlt2
                  subst e2
                  have HC := Lib.hid (fun W (hb : Below wr.heap.size wr W) => HK.out x.f4[i] (List.getElem_mem hlt) y.f4[i] G3 m3 G4 m4 E3 f3 E4 f4 W (hk.below hb) (hk2.below hb))
                  clear hk hk2
                  have q5 := ck0 HW.out q4
                  have r5 := ck0 HW.out r4
                  have p1 : (0 : Int) ≤ (i : Int) := by omega
                  have p2 : (i : Int) < (x.f4.length : Int) := by omega
                  have p3 : (i : Int) < (y.f4.length : Int) := by omega
                  go_wp2_with fail
                  go_region_held3 (fun w' => w'.cell? ⟨w.heap.size, 4, none⟩ = some (.slice (some ad) x.f4.length c4) ∧ w'.cell? ⟨w.heap.size + 1, 4, none⟩ = some (.slice (some ad2) y.f4.length d4) ∧ w'.cell? (ad.add (i * 5)) = some (.int .i64 x.f4[i].f0) ∧ w'.cell? ⟨(ad.add (i * 5)).block, (ad.add (i * 5)).off + 1, none⟩ = some (.string x.f4[i].f1) ∧ w'.cell? ⟨(ad.add (i * 5)).block, (ad.add (i * 5)).off + 2, none⟩ = some (.int .i64 x.f4[i].f2) ∧ w'.cell? ⟨(ad.add (i * 5)).block, (ad.add (i * 5)).off + 3, none⟩ = some (.slice G3 x.f4[i].f3.length m3) ∧ w'.cell? ⟨(ad.add (i * 5)).block, (ad.add (i * 5)).off + 4, none⟩ = some (.slice G4 x.f4[i].f4.length m4) ∧ w'.cell? (ad2.add (i * 5)) = some (.int .i64 y.f4[i].f0) ∧ w'.cell? ⟨(ad2.add (i * 5)).block, (ad2.add (i * 5)).off + 1, none⟩ = some (.string y.f4[i].f1) ∧ w'.cell? ⟨(ad2.add (i * 5)).block, (ad2.add (i * 5)).off + 2, none⟩ = some (.int .i64 y.f4[i].f2) ∧ w'.cell? ⟨(ad2.add (i * 5)).block, (ad2.add (i * 5)).off + 3, none⟩ = some (.slice E3 y.f4[i].f3.length f3) ∧ w'.cell? ⟨(ad2.add (i * 5)).block, (ad2.add (i * 5)).off + 4, none⟩ = some (.slice E4 y.f4[i].f4.length f4)) (first | go_keep | exact ⟨ck hb1 q5, ck hb1 r5, ck hb1 g0, ck hb1 g1, ck hb1 g2, ck hb1 g3, ck hb1 g4, ck hb1 h0, ck hb1 h1, ck hb1 h2, ck hb1 h3, ck hb1 h4⟩) ((go_at_call 100; refine (HC.out _ (Below.refl _ _).drew).mono ?_; rintro e w2 ⟨rfl, hb1⟩))
                  cases he : eqB x.f4[i] y.f4[i] with
                  | true =>
                    have HE := Lib.hid (eqB_iff.1 he)
                    clear he
                    go_wp2_with fail
                    go_roundg (x.f4.length - (i + 1))
                    case measure => omega
                    case rel =>
                      refine ⟨i + 1, by omega, Nat.le_refl _, by go_num, ⟨fun j hj hj2 hji => ?_⟩, ⟨below_step HW.out (below_step (Below.refl _ _).drew hb1)⟩⟩
                      rcases Nat.lt_or_ge j i with h | h
                      · exact HN.out j hj hj2 h
                      · obtain rfl : j = i := by omega
                        exact HE.out
                  | false =>
                    have HE := Lib.hid he
                    clear he
                    go_wp2_with fail
                    go_ret
                    refine ⟨ret_b (eqB_no (fun h => ?_)), below_step K1.out (below_step HW.out (below_step (Below.refl _ _).drew hb1))⟩
                    have := HE.out
                    subst h
                    rw [eqB_self] at this
                    cases this
                · obtain rfl : i = x.f4.length := by omega
                  have q5 := ck0 HW.out q4
                  go_wp2_with fail
                  go_ret
                  exact ⟨ret_b (eqB_yes (HX.out E1.out E2.out E3.out E4.out (List.ext_getElem HL.out (fun j hj hj2 => HN.out j hj hj2 hj)))), below_step K1.out HW.out⟩
            · have hl1 : ((x.f4.length : Int) == (y.f4.length : Int)) = false := by rw [beq_eq_false_iff_ne]; omega
              have hl2 : ((x.f4.length : Int) != (y.f4.length : Int)) = true := by simp; omega
              have HL := Lib.hid hl
              clear hl
              go_wp2_with fail
              go_ret
              exact ⟨ret_b (eqB_no (fun h => HL.out (by rw [h]))), K1.out⟩
          · have E4 := Lib.hid e4
            rw [decide_eq_false e4]
            clear e4
            go_wp2_with fail
            go_ret
            exact ⟨ret_b (eqB_no (fun h => E4.out (by rw [h]))), K1.out⟩
        · have t3 : (x.f2 == y.f2) = false := by simpa using e3
          have t3' : (x.f2 != y.f2) = true := by simpa using e3
          have E3 := Lib.hid e3
          clear e3 ih hx hy hb1 hb2
          go_enter Try.func100, Try.ntmps100
          go_wp2_with fail
          go_ret
          exact ⟨ret_b (eqB_no (fun h => E3.out (by rw [h]))), HB.out⟩
      · have t2 : (x.f1.toList == y.f1.toList) = false := by rw [beq_eq_false_iff_ne]; exact fun h => e2 (toList_inj h)
        have t2' : (x.f1.toList != y.f1.toList) = true := by rw [bne_iff_ne]; exact fun h => e2 (toList_inj h)
        have E2 := Lib.hid e2
        clear e2 ih hx hy hb1 hb2
        go_enter Try.func100, Try.ntmps100
        go_wp2_with fail
        go_ret
        exact ⟨ret_b (eqB_no (fun h => E2.out (by rw [h]))), HB.out⟩
    · have t1 : (x.f0 == y.f0) = false := by simpa using e1
      have t1' : (x.f0 != y.f0) = true := by simpa using e1
      have E1 := Lib.hid e1
      clear e1 ih hx hy hb1 hb2
      go_enter Try.func100, Try.ntmps100
      go_wp2_with fail
      go_ret
      exact ⟨ret_b (eqB_no (fun h => E1.out (by rw [h]))), HB.out⟩
def ImplSame (x : Fm) : Prop := ∀ (y : Fm) (A3 : Option Addr) (c3 : Nat) (A4 : Option Addr) (c4 : Nat) (B3 : Option Addr) (d3 : Nat) (B4 : Option Addr) (d4 : Nat) (w : World), FmIn w x A3 c3 A4 c4 → FmIn w y B3 d3 B4 d4 →
    Calls Try.prog 128 #[.agg #[.int .i64 x.f0, .string x.f1, .int .i64 x.f2, .slice A3 x.f3.length c3, .slice A4 x.f4.length c4], .agg #[.int .i64 y.f0, .string y.f1, .int .i64 y.f2, .slice B3 y.f3.length d3, .slice B4 y.f4.length d4]] w (Ret w (.bool (eqB x y)))
set_option maxHeartbeats 4000000 in
set_option maxRecDepth 100000 in
theorem equalFunc_of (ks ls : List Fm) (hks : ∀ k, k ∈ ks → ImplSame k) (A B : Option Addr) (c d : Nat) (w : World) (hr : kF.C w A ks.length ks) (hc : ks.length ≤ c) (hr2 : kF.C w B ls.length ls) (hc2 : ls.length ≤ d) :
    Calls Try.prog 148 #[.slice A ks.length c, .slice B ls.length d, .func (.func 128) #[] #[]] w (Ret w (.bool (eqB ks ls))) := by
  have eg : ∀ args w, (callFunc 128 args).run Try.prog w = .ok (.enter 128 args) w := enters_of Try.func128 (by kernel_rfl) rfl
  have hmax := hr.2.1
  by_cases hl : ks.length = ls.length
  · have hl1 : ((ks.length : Int) == (ls.length : Int)) = true := by simp [hl]
    have hl2 : ((ks.length : Int) != (ls.length : Int)) = false := by simp [hl]
    have HL := Lib.hid hl
    have HK := Lib.hid hks
    clear hl hks
    go_enter Try.func148, Try.ntmps148
    go_wp2_with fail
    go_loopg [7, 8, 9, 17] ks.length (fun kq v7 v8 v9 v17 w' => ∃ i : Nat, i ≤ ks.length ∧ ks.length - i ≤ kq ∧ v17 = .int .i64 i ∧ Aside0 (∀ j (h : j < ks.length) (h2 : j < ls.length), j < i → ks[j] = ls[j]) ∧ Aside0 (Below w.heap.size w w'))
    case atStart => exact ⟨0, Nat.zero_le _, by omega, rfl, ⟨fun j _ _ h => absurd h (by omega)⟩, ⟨Below.refl _ _⟩⟩
    case round =>
      obtain ⟨i, hi, hg, rfl, HN, HW⟩ := hrel
      by_cases hlt : i < ks.length
      · have hlt2 : i < ls.length := by have := HL.out; omega
        obtain ⟨ad, G3, m3, G4, m4, e, g0, g1, g2, g3, g4, hk⟩ := kid_at (Kd.C_below hr HW.out) i hlt
        subst e
        obtain ⟨ad2, E3, f3, E4, f4, e2, h0, h1, h2, h3, h4, hk2⟩ := kid_at (Kd.C_below hr2 HW.out) i hlt2
        subst e2
        have HC := Lib.hid (fun W (hb : Below wr.heap.size wr W) => HK.out ks[i] (List.getElem_mem hlt) ls[i] G3 m3 G4 m4 E3 f3 E4 f4 W (hk.below hb) (hk2.below hb))
        clear hk hk2
        have hn := below_new wr (.cells #[.int .i64 ks[i].f0, .string ks[i].f1, .int .i64 ks[i].f2, .slice G3 ks[i].f3.length m3, .slice G4 ks[i].f4.length m4] 29)
        have k0 := ck0 hn h0
        have k1 := ck0 hn h1
        have k2 := ck0 hn h2
        have k3 := ck0 hn h3
        have k4 := ck0 hn h4
        clear hn
        go_wp2_with fail
        refine (HC.out _ (below_step (below_new _ _) (below_new _ _))).mono ?_
        rintro e w1 ⟨rfl, hb1⟩
        obtain ⟨_, _, b1⟩ := two_new hb1
        have B1 := Lib.hid b1
        clear hb1 b1
        cases he : eqB ks[i] ls[i] with
        | true =>
          have HE := Lib.hid (eqB_iff.1 he)
          clear he
          go_wp2_with fail
          go_roundg (ks.length - (i + 1))
          case measure => omega
          case rel =>
            refine ⟨i + 1, by omega, Nat.le_refl _, by go_num, ⟨fun j hj hj2 hji => ?_⟩, ⟨below_step HW.out B1.out⟩⟩
            rcases Nat.lt_or_ge j i with h | h
            · exact HN.out j hj hj2 h
            · obtain rfl : j = i := by omega
              exact HE.out
        | false =>
          have HE := Lib.hid he
          clear he
          go_wp2_with fail
          go_ret
          refine ⟨ret_b (eqB_no (fun h => ?_)), below_step HW.out B1.out⟩
          have := HE.out
          subst h
          rw [eqB_self] at this
          cases this
      · obtain rfl : i = ks.length := by omega
        go_wp2_with fail
        go_ret
        exact ⟨ret_b (eqB_yes (List.ext_getElem HL.out (fun j hj hj2 => HN.out j hj hj2 hj))), HW.out⟩
  · have hl2 : ((ks.length : Int) != (ls.length : Int)) = true := by simp; omega
    have hl1 : ((ks.length : Int) == (ls.length : Int)) = false := by rw [beq_eq_false_iff_ne]; omega
    have HL := Lib.hid hl
    clear hl
    go_enter Try.func148, Try.ntmps148
    go_wp2_with fail
    go_ret
    exact ⟨ret_b (eqB_no (fun h => HL.out (by rw [h]))), Below.refl _ _⟩
set_option maxHeartbeats 4000000 in
theorem implSame_any (x : Fm) : ImplSame x := by
  induction x using Fm.ind with
  | h x ih =>
    intro y A3 c3 A4 c4 B3 d3 B4 d4 w hx hy
    have HX := Lib.hid (fun (h1 : x.f0 = y.f0) (h2 : x.f1 = y.f1) (h3 : x.f2 = y.f2) (h4 : x.f3 = y.f3) (h5 : x.f4 = y.f4) => Fm.ext' h1 h2 h3 h4 h5)
    have hb1 := below_new w (.cells #[.int .i64 x.f0, .string x.f1, .int .i64 x.f2, .slice A3 x.f3.length c3, .slice A4 x.f4.length c4] 29)
    have hb2 := below_step hb1 (below_new _ (.cells #[.int .i64 y.f0, .string y.f1, .int .i64 y.f2, .slice B3 y.f3.length d3, .slice B4 y.f4.length d4] 29))
    have HB := Lib.hid hb2
    by_cases e1 : x.f0 = y.f0
    · have t1 : (x.f0 == y.f0) = true := by simpa using e1
      have t1' : (x.f0 != y.f0) = false := by simpa using e1
      have E1 := Lib.hid e1
      clear e1
      by_cases e2 : x.f1 = y.f1
      · have t2 : (x.f1.toList == y.f1.toList) = true := by rw [e2]; simp
        have t2' : (x.f1.toList != y.f1.toList) = false := by rw [e2]; simp
        have E2 := Lib.hid e2
        clear e2
        by_cases e3 : x.f2 = y.f2
        · have t3 : (x.f2 == y.f2) = true := by simpa using e3
          have t3' : (x.f2 != y.f2) = false := by simpa using e3
          have E3 := Lib.hid e3
          clear e3
          have HC := Lib.hid (equalI_any x.f3 y.f3 A3 B3 c3 d3 _ (Kd.C_below hx.g3 hb2) hx.l3 (Kd.C_below hy.g3 hb2) hy.l3)
          have HK := Lib.hid (fun W hb => equalFunc_of x.f4 y.f4 ih A4 B4 c4 d4 W (Kd.C_below hx.g4 hb) hx.l4 (Kd.C_below hy.g4 hb) hy.l4)
          clear ih hx hy hb1 hb2
          go_enter Try.func128, Try.ntmps128
          go_wp2_with fail
          refine HC.out.mono ?_
          rintro e w1 ⟨rfl, k1⟩
          have hz := blk_below (blk_below (blk_new w (.cells #[.int .i64 x.f0, .string x.f1, .int .i64 x.f2, .slice A3 x.f3.length c3, .slice A4 x.f4.length c4] 29)) (below_new _ _)) k1
          have hz2 := blk_below (blk_new (w.alloc (.cells #[.int .i64 x.f0, .string x.f1, .int .i64 x.f2, .slice A3 x.f3.length c3, .slice A4 x.f4.length c4] 29)) (.cells #[.int .i64 y.f0, .string y.f1, .int .i64 y.f2, .slice B3 y.f3.length d3, .slice B4 y.f4.length d4] 29)) k1
          rw [show (w.alloc (.cells #[.int .i64 x.f0, .string x.f1, .int .i64 x.f2, .slice A3 x.f3.length c3, .slice A4 x.f4.length c4] 29)).heap.size = w.heap.size + 1 from by simp] at hz2
          obtain ⟨_, _, _, _, q4⟩ := fm_cells hz
          obtain ⟨_, _, _, _, r4⟩ := fm_cells hz2
          have K1 := Lib.hid (below_step HB.out k1)
          clear hz hz2 k1
          by_cases e4 : x.f3 = y.f3
          · have E4 := Lib.hid e4
            rw [decide_eq_true e4]
            clear e4
            go_wp2_with fail
            refine (HK.out _ K1.out).mono ?_
            rintro e w2 ⟨rfl, k2⟩
            cases e5 : eqB x.f4 y.f4 with
            | true =>
              have E5 := Lib.hid (eqB_iff.1 e5)
              clear e5
              go_wp2_with fail
              go_ret
              exact ⟨ret_b (eqB_yes (HX.out E1.out E2.out E3.out E4.out E5.out)), below_step K1.out k2⟩
            | false =>
              have E5 := Lib.hid e5
              clear e5
              go_wp2_with fail
              go_ret
              refine ⟨ret_b (eqB_no (fun h => ?_)), below_step K1.out k2⟩
              have := E5.out
              rw [h, eqB_self] at this
              cases this
          · have E4 := Lib.hid e4
            rw [decide_eq_false e4]
            clear e4
            go_wp2_with fail
            go_ret
            exact ⟨ret_b (eqB_no (fun h => E4.out (by rw [h]))), K1.out⟩
        · have t3 : (x.f2 == y.f2) = false := by simpa using e3
          have t3' : (x.f2 != y.f2) = true := by simpa using e3
          have E3 := Lib.hid e3
          clear e3 ih hx hy hb1 hb2
          go_enter Try.func128, Try.ntmps128
          go_wp2_with fail
          go_ret
          exact ⟨ret_b (eqB_no (fun h => E3.out (by rw [h]))), HB.out⟩
      · have t2 : (x.f1.toList == y.f1.toList) = false := by rw [beq_eq_false_iff_ne]; exact fun h => e2 (toList_inj h)
        have t2' : (x.f1.toList != y.f1.toList) = true := by rw [bne_iff_ne]; exact fun h => e2 (toList_inj h)
        have E2 := Lib.hid e2
        clear e2 ih hx hy hb1 hb2
        go_enter Try.func128, Try.ntmps128
        go_wp2_with fail
        go_ret
        exact ⟨ret_b (eqB_no (fun h => E2.out (by rw [h]))), HB.out⟩
    · have t1 : (x.f0 == y.f0) = false := by simpa using e1
      have t1' : (x.f0 != y.f0) = true := by simpa using e1
      have E1 := Lib.hid e1
      clear e1 ih hx hy hb1 hb2
      go_enter Try.func128, Try.ntmps128
      go_wp2_with fail
      go_ret
      exact ⟨ret_b (eqB_no (fun h => E1.out (by rw [h]))), HB.out⟩
end Go.Proofs.Ytnaefjilcabkoaa
end
section
namespace Go.Proofs.Ytnaefjilcabkoaa.Q
open Go.RowKit Go.Proofs.YtnaefjilcabkoaaW.PrintWords Go.Proofs.YtnaefjilcabkoaaW.PrintLast Go.Proofs.YtnaefjilcabkoaaW.PrintMore
set_option linter.unusedVariables false
set_option linter.unusedSimpArgs false

/-! ### spec_NameValid: function 87, proved by hand -/
noncomputable def spec_NameValid.f (a0 : ByteArray) : Option (Bool) := gIf (a0.size ≤ 140737488351232) (nmB a0)
set_option maxRecDepth 100000 in
theorem spec_NameValid.calls (a0 : ByteArray) (r : Bool) (w : World)  (h : spec_NameValid.f a0 = some r) :
    Calls Try.prog 87 #[.string a0] w fun e w' => e = .returned (.bool r) ∧ Below w.heap.size w w' := by
  obtain ⟨ht, rfl⟩ := gIf_some h
  exact specName_any a0 w ht

/-! ### spec_l1Scopes: function 88, proved by hand -/
noncomputable def spec_l1Scopes.f (l0 : List Int) : Option (Bool) := some (pB (ScOk l0))
set_option maxRecDepth 100000 in
theorem spec_l1Scopes.calls (A0 : Option Addr) (c0 : Nat) (l0 : List Int) (r : Bool) (w : World) (hr0 : Kd.C (Kd.int .i64) w A0 l0.length l0) (hc0 : l0.length ≤ c0) (h : spec_l1Scopes.f l0 = some r) :
    Calls Try.prog 88 #[.slice A0 l0.length c0] w fun e w' => e = .returned (.bool r) ∧ Below w.heap.size w w' := by
  obtain rfl := Option.some.inj h
  exact l1Scopes_any l0 A0 c0 w hr0 hc0

/-! ### spec_FormValid: function 72, proved by hand -/
noncomputable def spec_FormValid.f (a0_0 : Int) (a0_1 : ByteArray) (a0_2 : Int) (l0_3 : List Int) (l0_4 : List (S29)) : Option (Bool) := gIf ((⟨a0_0, a0_1, a0_2, l0_3, l0_4⟩ : Fm).tot ≤ 1048576) (pB (FmOk (⟨a0_0, a0_1, a0_2, l0_3, l0_4⟩ : Fm)))
set_option maxRecDepth 100000 in
theorem spec_FormValid.calls (a0_0 : Int) (a0_1 : ByteArray) (a0_2 : Int) (A0_3 : Option Addr) (c0_3 : Nat) (l0_3 : List Int) (A0_4 : Option Addr) (c0_4 : Nat) (l0_4 : List (S29)) (r : Bool) (w : World) (hr0_3 : Kd.C (Kd.int .i64) w A0_3 l0_3.length l0_3) (hc0_3 : l0_3.length ≤ c0_3) (hr0_4 : Kd.C k29 w A0_4 l0_4.length l0_4) (hc0_4 : l0_4.length ≤ c0_4) (h : spec_FormValid.f a0_0 a0_1 a0_2 l0_3 l0_4 = some r) :
    Calls Try.prog 72 #[.agg #[.int .i64 a0_0, .string a0_1, .int .i64 a0_2, .slice A0_3 l0_3.length c0_3, .slice A0_4 l0_4.length c0_4]] w fun e w' => e = .returned (.bool r) ∧ Below w.heap.size w w' := by
  obtain ⟨ht, rfl⟩ := gIf_some h
  exact specValid_any (⟨a0_0, a0_1, a0_2, l0_3, l0_4⟩ : Fm) A0_3 c0_3 A0_4 c0_4 w ⟨hc0_3, hr0_3, hc0_4, hr0_4⟩ ht

/-! ### spec_l2Has: function 116, proved by hand -/
noncomputable def spec_l2Has.f (l0 : List Int) (a1 : Int) : Option (Bool) := some (decide (a1 ∈ l0))
set_option maxRecDepth 100000 in
theorem spec_l2Has.calls (A0 : Option Addr) (c0 : Nat) (l0 : List Int) (a1 : Int) (r : Bool) (w : World) (hr0 : Kd.C (Kd.int .i64) w A0 l0.length l0) (hc0 : l0.length ≤ c0) (h : spec_l2Has.f l0 a1 = some r) :
    Calls Try.prog 116 #[.slice A0 l0.length c0, .int .i64 a1] w fun e w' => e = .returned (.bool r) ∧ Below w.heap.size w w' := by
  obtain rfl := Option.some.inj h
  exact l2Has_any l0 a1 A0 c0 w hr0 hc0

/-! ### impl_within: function 93, proved by hand -/
noncomputable def impl_within.f (a0 : Int) (a1 : Int) (a2 : Int) : Option (Bool) := some (decide (a1 ≤ a0 ∧ a0 ≤ a2))
set_option maxRecDepth 100000 in
theorem impl_within.calls (a0 : Int) (a1 : Int) (a2 : Int) (r : Bool) (w : World)  (h : impl_within.f a0 a1 a2 = some r) :
    Calls Try.prog 93 #[.int .i64 a0, .int .i64 a1, .int .i64 a2] w fun e w' => e = .returned (.bool r) ∧ Below w.heap.size w w' := by
  obtain rfl := Option.some.inj h
  exact within_any a0 a1 a2 w

/-! ### impl_NameValid: function 91, proved by hand -/
noncomputable def impl_NameValid.f (a0 : ByteArray) : Option (Bool) := gIf (a0.size ≤ 140737488351232) (nmB a0)
set_option maxRecDepth 100000 in
theorem impl_NameValid.calls (a0 : ByteArray) (r : Bool) (w : World)  (h : impl_NameValid.f a0 = some r) :
    Calls Try.prog 91 #[.string a0] w fun e w' => e = .returned (.bool r) ∧ Below w.heap.size w w' := by
  obtain ⟨ht, rfl⟩ := gIf_some h
  exact implName_any a0 w ht

/-! ### impl_scopesOk: function 92, proved by hand -/
noncomputable def impl_scopesOk.f (l0 : List Int) : Option (Bool) := some (pB (ScOk l0))
set_option maxRecDepth 100000 in
theorem impl_scopesOk.calls (A0 : Option Addr) (c0 : Nat) (l0 : List Int) (r : Bool) (w : World) (hr0 : Kd.C (Kd.int .i64) w A0 l0.length l0) (hc0 : l0.length ≤ c0) (h : impl_scopesOk.f l0 = some r) :
    Calls Try.prog 92 #[.slice A0 l0.length c0] w fun e w' => e = .returned (.bool r) ∧ Below w.heap.size w w' := by
  obtain rfl := Option.some.inj h
  exact scopesOk_any l0 A0 c0 w hr0 hc0

/-! ### impl_FormValid: function 75, proved by hand -/
noncomputable def impl_FormValid.f (a0_0 : Int) (a0_1 : ByteArray) (a0_2 : Int) (l0_3 : List Int) (l0_4 : List (S29)) : Option (Bool) := gIf ((⟨a0_0, a0_1, a0_2, l0_3, l0_4⟩ : Fm).tot ≤ 1048576) (pB (FmOk (⟨a0_0, a0_1, a0_2, l0_3, l0_4⟩ : Fm)))
set_option maxRecDepth 100000 in
theorem impl_FormValid.calls (a0_0 : Int) (a0_1 : ByteArray) (a0_2 : Int) (A0_3 : Option Addr) (c0_3 : Nat) (l0_3 : List Int) (A0_4 : Option Addr) (c0_4 : Nat) (l0_4 : List (S29)) (r : Bool) (w : World) (hr0_3 : Kd.C (Kd.int .i64) w A0_3 l0_3.length l0_3) (hc0_3 : l0_3.length ≤ c0_3) (hr0_4 : Kd.C k29 w A0_4 l0_4.length l0_4) (hc0_4 : l0_4.length ≤ c0_4) (h : impl_FormValid.f a0_0 a0_1 a0_2 l0_3 l0_4 = some r) :
    Calls Try.prog 75 #[.agg #[.int .i64 a0_0, .string a0_1, .int .i64 a0_2, .slice A0_3 l0_3.length c0_3, .slice A0_4 l0_4.length c0_4]] w fun e w' => e = .returned (.bool r) ∧ Below w.heap.size w w' := by
  obtain ⟨ht, rfl⟩ := gIf_some h
  exact implValid_any (⟨a0_0, a0_1, a0_2, l0_3, l0_4⟩ : Fm) A0_3 c0_3 A0_4 c0_4 w ⟨hc0_3, hr0_3, hc0_4, hr0_4⟩ ht

/-! ### slices_Clone_int_int: function 121, proved by hand -/
noncomputable def slices_Clone_int_int.f (l0 : List Int) : Option ((List Int)) := gIf (l0.length ≤ 17592186044416) l0
set_option maxRecDepth 100000 in
theorem slices_Clone_int_int.calls (A0 : Option Addr) (c0 : Nat) (l0 : List Int) (r : List Int) (w : World) (hr0 : Kd.C (Kd.int .i64) w A0 l0.length l0) (hc0 : l0.length ≤ c0) (h : slices_Clone_int_int.f l0 = some r) :
    Calls Try.prog 121 #[.slice A0 l0.length c0] w fun e w' => ∃ v0_ : Value, e = .returned (v0_) ∧ Kd.R (Kd.int .i64) 3 w' w.heap.size (fun k_ => True) v0_ r ∧ Below w.heap.size w w' := by
  obtain ⟨ht, rfl⟩ := gIf_some h
  exact cloneI_any l0 A0 c0 w hr0 hc0 ht

/-! ### spec_l1Ints: function 89, proved by hand -/
noncomputable def spec_l1Ints.f (l0 : List Int) (l1 : List Int) : Option (Bool) := some (decide (l0 = l1))
set_option maxRecDepth 100000 in
theorem spec_l1Ints.calls (A0 : Option Addr) (c0 : Nat) (l0 : List Int) (A1 : Option Addr) (c1 : Nat) (l1 : List Int) (r : Bool) (w : World) (hr0 : Kd.C (Kd.int .i64) w A0 l0.length l0) (hc0 : l0.length ≤ c0) (hr1 : Kd.C (Kd.int .i64) w A1 l1.length l1) (hc1 : l1.length ≤ c1) (h : spec_l1Ints.f l0 l1 = some r) :
    Calls Try.prog 89 #[.slice A0 l0.length c0, .slice A1 l1.length c1] w fun e w' => e = .returned (.bool r) ∧ Below w.heap.size w w' := by
  obtain rfl := Option.some.inj h
  exact l1Ints_any l0 l1 A0 A1 c0 c1 w hr0 hc0 hr1 hc1

/-! ### spec_FormSame: function 100, proved by hand -/
noncomputable def spec_FormSame.f (a0_0 : Int) (a0_1 : ByteArray) (a0_2 : Int) (l0_3 : List Int) (l0_4 : List (S29)) (a1_0 : Int) (a1_1 : ByteArray) (a1_2 : Int) (l1_3 : List Int) (l1_4 : List (S29)) : Option (Bool) := some (eqB (⟨a0_0, a0_1, a0_2, l0_3, l0_4⟩ : Fm) (⟨a1_0, a1_1, a1_2, l1_3, l1_4⟩ : Fm))
set_option maxRecDepth 100000 in
theorem spec_FormSame.calls (a0_0 : Int) (a0_1 : ByteArray) (a0_2 : Int) (A0_3 : Option Addr) (c0_3 : Nat) (l0_3 : List Int) (A0_4 : Option Addr) (c0_4 : Nat) (l0_4 : List (S29)) (a1_0 : Int) (a1_1 : ByteArray) (a1_2 : Int) (A1_3 : Option Addr) (c1_3 : Nat) (l1_3 : List Int) (A1_4 : Option Addr) (c1_4 : Nat) (l1_4 : List (S29)) (r : Bool) (w : World) (hr0_3 : Kd.C (Kd.int .i64) w A0_3 l0_3.length l0_3) (hc0_3 : l0_3.length ≤ c0_3) (hr0_4 : Kd.C k29 w A0_4 l0_4.length l0_4) (hc0_4 : l0_4.length ≤ c0_4) (hr1_3 : Kd.C (Kd.int .i64) w A1_3 l1_3.length l1_3) (hc1_3 : l1_3.length ≤ c1_3) (hr1_4 : Kd.C k29 w A1_4 l1_4.length l1_4) (hc1_4 : l1_4.length ≤ c1_4) (h : spec_FormSame.f a0_0 a0_1 a0_2 l0_3 l0_4 a1_0 a1_1 a1_2 l1_3 l1_4 = some r) :
    Calls Try.prog 100 #[.agg #[.int .i64 a0_0, .string a0_1, .int .i64 a0_2, .slice A0_3 l0_3.length c0_3, .slice A0_4 l0_4.length c0_4], .agg #[.int .i64 a1_0, .string a1_1, .int .i64 a1_2, .slice A1_3 l1_3.length c1_3, .slice A1_4 l1_4.length c1_4]] w fun e w' => e = .returned (.bool r) ∧ Below w.heap.size w w' := by
  obtain rfl := Option.some.inj h
  exact specSame_any (⟨a0_0, a0_1, a0_2, l0_3, l0_4⟩ : Fm) (⟨a1_0, a1_1, a1_2, l1_3, l1_4⟩ : Fm) A0_3 c0_3 A0_4 c0_4 A1_3 c1_3 A1_4 c1_4 w ⟨hc0_3, hr0_3, hc0_4, hr0_4⟩ ⟨hc1_3, hr1_3, hc1_4, hr1_4⟩

/-! ### slices_Equal_int_int: function 96, proved by hand -/
noncomputable def slices_Equal_int_int.f (l0 : List Int) (l1 : List Int) : Option (Bool) := some (decide (l0 = l1))
set_option maxRecDepth 100000 in
theorem slices_Equal_int_int.calls (A0 : Option Addr) (c0 : Nat) (l0 : List Int) (A1 : Option Addr) (c1 : Nat) (l1 : List Int) (r : Bool) (w : World) (hr0 : Kd.C (Kd.int .i64) w A0 l0.length l0) (hc0 : l0.length ≤ c0) (hr1 : Kd.C (Kd.int .i64) w A1 l1.length l1) (hc1 : l1.length ≤ c1) (h : slices_Equal_int_int.f l0 l1 = some r) :
    Calls Try.prog 96 #[.slice A0 l0.length c0, .slice A1 l1.length c1] w fun e w' => e = .returned (.bool r) ∧ Below w.heap.size w w' := by
  obtain rfl := Option.some.inj h
  exact equalI_any l0 l1 A0 A1 c0 c1 w hr0 hc0 hr1 hc1

/-! ### impl_FormSame: function 128, proved by hand -/
noncomputable def impl_FormSame.f (a0_0 : Int) (a0_1 : ByteArray) (a0_2 : Int) (l0_3 : List Int) (l0_4 : List (S29)) (a1_0 : Int) (a1_1 : ByteArray) (a1_2 : Int) (l1_3 : List Int) (l1_4 : List (S29)) : Option (Bool) := some (eqB (⟨a0_0, a0_1, a0_2, l0_3, l0_4⟩ : Fm) (⟨a1_0, a1_1, a1_2, l1_3, l1_4⟩ : Fm))
set_option maxRecDepth 100000 in
theorem impl_FormSame.calls (a0_0 : Int) (a0_1 : ByteArray) (a0_2 : Int) (A0_3 : Option Addr) (c0_3 : Nat) (l0_3 : List Int) (A0_4 : Option Addr) (c0_4 : Nat) (l0_4 : List (S29)) (a1_0 : Int) (a1_1 : ByteArray) (a1_2 : Int) (A1_3 : Option Addr) (c1_3 : Nat) (l1_3 : List Int) (A1_4 : Option Addr) (c1_4 : Nat) (l1_4 : List (S29)) (r : Bool) (w : World) (hr0_3 : Kd.C (Kd.int .i64) w A0_3 l0_3.length l0_3) (hc0_3 : l0_3.length ≤ c0_3) (hr0_4 : Kd.C k29 w A0_4 l0_4.length l0_4) (hc0_4 : l0_4.length ≤ c0_4) (hr1_3 : Kd.C (Kd.int .i64) w A1_3 l1_3.length l1_3) (hc1_3 : l1_3.length ≤ c1_3) (hr1_4 : Kd.C k29 w A1_4 l1_4.length l1_4) (hc1_4 : l1_4.length ≤ c1_4) (h : impl_FormSame.f a0_0 a0_1 a0_2 l0_3 l0_4 a1_0 a1_1 a1_2 l1_3 l1_4 = some r) :
    Calls Try.prog 128 #[.agg #[.int .i64 a0_0, .string a0_1, .int .i64 a0_2, .slice A0_3 l0_3.length c0_3, .slice A0_4 l0_4.length c0_4], .agg #[.int .i64 a1_0, .string a1_1, .int .i64 a1_2, .slice A1_3 l1_3.length c1_3, .slice A1_4 l1_4.length c1_4]] w fun e w' => e = .returned (.bool r) ∧ Below w.heap.size w w' := by
  obtain rfl := Option.some.inj h
  exact implSame_any (⟨a0_0, a0_1, a0_2, l0_3, l0_4⟩ : Fm) (⟨a1_0, a1_1, a1_2, l1_3, l1_4⟩ : Fm) A0_3 c0_3 A0_4 c0_4 A1_3 c1_3 A1_4 c1_4 w ⟨hc0_3, hr0_3, hc0_4, hr0_4⟩ ⟨hc1_3, hr1_3, hc1_4, hr1_4⟩

/-! ### spec_ScopesWithin: function 129, proved by hand -/
noncomputable def spec_ScopesWithin.f (l0 : List Int) (l1 : List Int) : Option (Bool) := some (decide (∀ x, x ∈ l0 → x ∈ l1))
set_option maxRecDepth 100000 in
theorem spec_ScopesWithin.calls (A0 : Option Addr) (c0 : Nat) (l0 : List Int) (A1 : Option Addr) (c1 : Nat) (l1 : List Int) (r : Bool) (w : World) (hr0 : Kd.C (Kd.int .i64) w A0 l0.length l0) (hc0 : l0.length ≤ c0) (hr1 : Kd.C (Kd.int .i64) w A1 l1.length l1) (hc1 : l1.length ≤ c1) (h : spec_ScopesWithin.f l0 l1 = some r) :
    Calls Try.prog 129 #[.slice A0 l0.length c0, .slice A1 l1.length c1] w fun e w' => e = .returned (.bool r) ∧ Below w.heap.size w w' := by
  obtain rfl := Option.some.inj h
  exact specWithin_any l0 l1 A0 A1 c0 c1 w hr0 hc0 hr1 hc1

/-! ### impl_ScopesWithin: function 130, proved by hand -/
noncomputable def impl_ScopesWithin.f (l0 : List Int) (l1 : List Int) : Option (Bool) := some (decide (∀ x, x ∈ l0 → x ∈ l1))
set_option maxRecDepth 100000 in
theorem impl_ScopesWithin.calls (A0 : Option Addr) (c0 : Nat) (l0 : List Int) (A1 : Option Addr) (c1 : Nat) (l1 : List Int) (r : Bool) (w : World) (hr0 : Kd.C (Kd.int .i64) w A0 l0.length l0) (hc0 : l0.length ≤ c0) (hr1 : Kd.C (Kd.int .i64) w A1 l1.length l1) (hc1 : l1.length ≤ c1) (h : impl_ScopesWithin.f l0 l1 = some r) :
    Calls Try.prog 130 #[.slice A0 l0.length c0, .slice A1 l1.length c1] w fun e w' => e = .returned (.bool r) ∧ Below w.heap.size w w' := by
  obtain rfl := Option.some.inj h
  exact implWithin_any l0 l1 A0 A1 c0 c1 w hr0 hc0 hr1 hc1
end Go.Proofs.Ytnaefjilcabkoaa.Q
end
section
namespace Go.Proofs.Ytnaefjilcabkoaa
open Go.RowKit Go.Proofs.YtnaefjilcabkoaaW.PrintWords Go.Proofs.YtnaefjilcabkoaaW.PrintLast Go.Proofs.YtnaefjilcabkoaaW.PrintMore
set_option linter.unusedVariables false
set_option linter.unusedSimpArgs false
/-- How a function tells of a form in new memory: from block B on. -/
structure Tells where
  T : Nat → World → Fm → Value → Value → Prop
  move : ∀ {B w w' x v3 v4}, T B w x v3 v4 → (∀ b, B ≤ b → w'.heap[b]? = w.heap[b]?) → T B w' x v3 v4
  low : ∀ {B B' w x v3 v4}, B' ≤ B → T B w x v3 v4 → T B' w x v3 v4
  form : ∀ {B w x v3 v4}, T B w x v3 v4 → ∃ A c B d, v3 = .slice A x.f3.length c ∧ v4 = .slice B x.f4.length d
def RetT (t : Tells) (w : World) (p : Fm × Bool) (e : Ending) (w' : World) : Prop := ∃ v3 v4, e = .returned (.tuple #[.agg #[.int .i64 p.1.f0, .string p.1.f1, .int .i64 p.1.f2, v3, v4], .bool p.2]) ∧ t.T w.heap.size w' p.1 v3 v4 ∧ Below w.heap.size w w'
def tellsNew : Tells where
  T := NewF
  move := by
    rintro B w w' x v3 v4 ⟨fp, ht, hn, hg⟩ hm
    exact ⟨fp, ht.move x (fun b hb => hm b (hg b hb)), hn, hg⟩
  low := by
    rintro B B' w x v3 v4 hb ⟨fp, ht, hn, hg⟩
    exact ⟨fp, ht, hn, fun b h => Nat.le_trans hb (hg b h)⟩
  form := by
    rintro B w x v3 v4 ⟨fp, ht, hn, hg⟩
    obtain ⟨A3, c3, A4, c4, e3, e4, _⟩ := ht.In
    exact ⟨A3, c3, A4, c4, e3, e4⟩
def tellsR : Tells where
  T := fun B w x v3 v4 => kI.R 3 w B (fun _ => True) v3 x.f3 ∧ kF.R 29 w B (fun k => some k ≠ v3.ownBlock) v4 x.f4
  move := by
    rintro B w w' x v3 v4 ⟨h3, h4⟩ hm
    have h3' := Kd.R_mono (Kd.R_move (Kd.R_bound h3) (fun k hk => hm k hk.2.1)) (fun _ _ => trivial)
    exact ⟨h3', Kd.R_mono (Kd.R_move (Kd.R_bound h4) (fun k hk => hm k hk.2.1)) (fun _ hk => hk.1)⟩
  low := by
    rintro B B' w x v3 v4 hb ⟨h3, h4⟩
    exact ⟨Kd.R_lower h3 hb, Kd.R_lower h4 hb⟩
  form := by
    rintro B w x v3 v4 ⟨h3, h4⟩
    obtain ⟨A, c, e3⟩ := Kd.R_slice h3
    obtain ⟨A2, c2, e4⟩ := Kd.R_slice h4
    exact ⟨A, c, A2, c2, e3, e4⟩
theorem without1_any (x n : Int) (g : Nat) (w : World) (hg : w.cell? ⟨g, 0, none⟩ = some (.int .i64 n)) :
    Calls Try.prog 111 #[.int .i64 x, .pointer (some ⟨g, 0, none⟩)] w (Ret w (.bool (x == n))) := by
  go_enter Try.func111, Try.ntmps111
  generalize hd : (x == n) = b
  go_wp2_with fail
  go_ret
  exact ⟨rfl, Below.refl _ _⟩
theorem withoutScope_any (xs : List Int) (n : Int) (v : Value) (B : Nat) (ok : Nat → Prop) (w : World) (h : kI.R 3 w B ok v xs) :
    Calls Try.prog 69 #[v, .int .i64 n] w (fun e w' => ∃ v', e = .returned v' ∧ kI.R 3 w' B ok v' (xs.filter (fun x => !(x == n))) ∧ Mk (obs v) w w') := by
  have eg : ∀ args w, (callFunc 111 args).run Try.prog w = .ok (.enter 111 args) w := enters_of Try.func111 (by kernel_rfl) rfl
  have hbx := below_new w (.cells #[.int .i64 n] 3)
  have hlt := Kd.R_lt h
  have HC := Lib.hid (deleteFuncI_any xs (fun x => x == n) 111 #[.pointer (some ⟨w.heap.size, 0, none⟩)] eg v B ok (w.alloc (.cells #[.int .i64 n] 3)) (Kd.R_below h hbx)
    (fun x _ W hM => without1_any x n w.heap.size W ((blk_cell ((hM.keep w.heap.size (by simp) (fun hm => by have := hlt _ (obs_mem.1 hm); omega)).trans (blk_new w _)) 0).trans rfl)))
  have HB := Lib.hid hbx
  obtain ⟨A, c, rfl⟩ := Kd.R_slice h
  clear h hbx hlt eg
  go_enter Try.func69, Try.ntmps69
  go_wp2_with fail
  refine HC.out.mono ?_
  rintro e w1 ⟨v', rfl, hR, hM, _⟩
  have HF := Lib.hid (And.intro hR hM)
  clear hR hM
  go_wp2_with fail
  go_ret
  exact ⟨_, rfl, HF.out.1, (Mk.ofBelow HB.out).trans HF.out.2⟩
/-- What a mover leaves, as_ the print tells it. -/
theorem Mk.kept {v : Value} {w w' : World} {P1 : Nat → Prop} (h : Mk (obs v) w w') (hp : ∀ k, v.ownBlock = some k → P1 k) : Kept w w' (fun k => P1 k) := ⟨h.b0.size, fun i hi hn => h.keep i hi (fun hm => hn (hp i (obs_mem.1 hm)))⟩
theorem Mk.below_own {v : Value} {wb w w' : World} (h : Mk (obs v) w w') (hB : Below wb.heap.size wb w) (hv : ∀ k, v.ownBlock = some k → wb.heap.size ≤ k) : Below wb.heap.size wb w' := hB.trans (h.below hB.size (fun b hb => hv b (obs_mem.1 hb)))
/-- A set with a number put in or taken out. -/
def flipS (l : List Int) (n : Int) : List Int := if n ∈ l then l.filter (fun y => !(y == n)) else putS l n
/-- AddScope's closure as_ a function value: the number lies in block g of w0. -/
noncomputable def fvAddScope (n : Int) (g : Nat) (w0 : World) (hg : w0.cell? ⟨g, 0, none⟩ = some (.int .i64 n)) : Fv where
  g := 70
  lb := #[.pointer (some ⟨g, 0, none⟩)]
  w0 := w0
  f := fun l => gIf (l.Pairwise (· < ·) ∧ l.length ≤ 1000000) (putS l n)
  eg := enters_of Try.func70 (by kernel_rfl) rfl
  ok := by
    intro P1 u l r wb w hB hR h0 hf
    have hc : w.cell? ⟨g, 0, none⟩ = some (.int .i64 n) := ck0 hB (ck0 h0 hg)
    have hsz := hB.size
    have hbase := Kd.R_base hR
    obtain ⟨⟨hs, hl⟩, rfl⟩ := gIf_some hf
    have HC := Lib.hid (withScope_any l n u wb.heap.size P1 w hR hsz hs hl)
    have HF := Lib.hid (And.intro hR (And.intro hB hbase))
    obtain ⟨A, c, rfl⟩ := Kd.R_slice hR
    clear hR hB h0 hbase
    show Calls Try.prog 70 #[.slice A l.length c, .pointer (some ⟨g, 0, none⟩)] w _
    go_enter Try.func70, Try.ntmps70
    go_wp2_with fail
    refine HC.out.mono ?_
    rintro e w1 ⟨v', rfl, hR1, hM1⟩
    have HG := Lib.hid (And.intro hR1 hM1)
    clear hR1 hM1
    go_wp2_with fail
    go_ret
    exact ⟨_, rfl, HG.out.1, HG.out.2.below_own HF.out.2.1 HF.out.2.2, HG.out.2.kept HF.out.1.1⟩
/-- DropScope's closure as_ a function value: the number lies in block g of w0. -/
noncomputable def fvDropScope (n : Int) (g : Nat) (w0 : World) (hg : w0.cell? ⟨g, 0, none⟩ = some (.int .i64 n)) : Fv where
  g := 68
  lb := #[.pointer (some ⟨g, 0, none⟩)]
  w0 := w0
  f := fun l => some (l.filter (fun y => !(y == n)))
  eg := enters_of Try.func68 (by kernel_rfl) rfl
  ok := by
    intro P1 u l r wb w hB hR h0 hf
    have hc : w.cell? ⟨g, 0, none⟩ = some (.int .i64 n) := ck0 hB (ck0 h0 hg)
    have hsz := hB.size
    have hbase := Kd.R_base hR
    obtain rfl := Option.some.inj hf
    have HC := Lib.hid (withoutScope_any l n u wb.heap.size P1 w hR)
    have HF := Lib.hid (And.intro hR (And.intro hB hbase))
    obtain ⟨A, c, rfl⟩ := Kd.R_slice hR
    clear hR hB h0 hbase
    show Calls Try.prog 68 #[.slice A l.length c, .pointer (some ⟨g, 0, none⟩)] w _
    go_enter Try.func68, Try.ntmps68
    go_wp2_with fail
    refine HC.out.mono ?_
    rintro e w1 ⟨v', rfl, hR1, hM1⟩
    have HG := Lib.hid (And.intro hR1 hM1)
    clear hR1 hM1
    go_wp2_with fail
    go_ret
    exact ⟨_, rfl, Kd.R_mono HG.out.1 (fun _ h => .inl h), HG.out.2.below_own HF.out.2.1 HF.out.2.2, HG.out.2.kept HF.out.1.1⟩
theorem flip_any (xs : List Int) (x : Int) (v : Value) (B : Nat) (P1 : Nat → Prop) (w : World) (h : kI.R 3 w B P1 v xs) (hB : B ≤ w.heap.size) (hs : xs.Pairwise (· < ·)) (hlen : xs.length ≤ 1000000) :
    Calls Try.prog 81 #[v, .int .i64 x] w (fun e w' => ∃ v', e = .returned v' ∧ kI.R 3 w' B (fun b => P1 b ∨ w.heap.size ≤ b) v' (flipS xs x) ∧ Mk (obs v) w w') := by
  obtain ⟨A, c, rfl, hcap, hC⟩ := Kd.R_reads h
  have HC := Lib.hid (containsI_any xs x A c w hC hcap)
  have HR := Aside0.mk h
  have HS := Lib.hid hs
  clear h hC hs
  by_cases hx : x ∈ xs
  · have HX := Lib.hid hx
    rw [decide_eq_true hx] at HC
    clear hx
    go_enter Try.func81, Try.ntmps81
    go_wp2_with fail
    refine HC.out.mono ?_
    rintro e w1 ⟨rfl, hb1⟩
    have HB1 := Lib.hid hb1
    clear hb1
    go_wp2_with fail
    refine (withoutScope_any xs x (.slice A xs.length c) B P1 w1 (Kd.R_below HR.out HB1.out)).mono ?_
    rintro e w2 ⟨v', rfl, hR2, hM2⟩
    have HF := Lib.hid (And.intro hR2 hM2)
    clear hR2 hM2
    go_wp2_with fail
    go_ret
    refine ⟨_, rfl, ?_, (Mk.ofBelow HB1.out).trans HF.out.2⟩
    rw [flipS, if_pos HX.out]
    exact Kd.R_mono HF.out.1 (fun _ h => .inl h)
  · have HX := Lib.hid hx
    rw [decide_eq_false hx] at HC
    clear hx
    go_enter Try.func81, Try.ntmps81
    go_wp2_with fail
    refine HC.out.mono ?_
    rintro e w1 ⟨rfl, hb1⟩
    have HB1 := Lib.hid hb1
    clear hb1
    go_wp2_with fail
    refine (withScope_any xs x (.slice A xs.length c) B P1 w1 (Kd.R_below HR.out HB1.out) (Nat.le_trans hB HB1.out.size) HS.out hlen).mono ?_
    rintro e w2 ⟨v', rfl, hR2, hM2⟩
    have HF := Lib.hid (And.intro hR2 hM2)
    clear hR2 hM2
    go_wp2_with fail
    go_ret
    refine ⟨_, rfl, ?_, (Mk.ofBelow HB1.out).trans HF.out.2⟩
    rw [flipS, if_neg HX.out]
    exact Kd.R_mono HF.out.1 (fun b hb => hb.imp id (fun h => Nat.le_trans HB1.out.size h))
/-- FlipScope's closure as_ a function value: the number lies in block g of w0. -/
noncomputable def fvFlipScope (n : Int) (g : Nat) (w0 : World) (hg : w0.cell? ⟨g, 0, none⟩ = some (.int .i64 n)) : Fv where
  g := 80
  lb := #[.pointer (some ⟨g, 0, none⟩)]
  w0 := w0
  f := fun l => gIf (l.Pairwise (· < ·) ∧ l.length ≤ 1000000) (flipS l n)
  eg := enters_of Try.func80 (by kernel_rfl) rfl
  ok := by
    intro P1 u l r wb w hB hR h0 hf
    have hc : w.cell? ⟨g, 0, none⟩ = some (.int .i64 n) := ck0 hB (ck0 h0 hg)
    have hsz := hB.size
    have hbase := Kd.R_base hR
    obtain ⟨⟨hs, hl⟩, rfl⟩ := gIf_some hf
    have HC := Lib.hid (flip_any l n u wb.heap.size P1 w hR hsz hs hl)
    have HF := Lib.hid (And.intro hR (And.intro hB hbase))
    obtain ⟨A, c, rfl⟩ := Kd.R_slice hR
    clear hR hB h0 hbase
    show Calls Try.prog 80 #[.slice A l.length c, .pointer (some ⟨g, 0, none⟩)] w _
    go_enter Try.func80, Try.ntmps80
    go_wp2_with fail
    refine HC.out.mono ?_
    rintro e w1 ⟨v', rfl, hR1, hM1⟩
    have HG := Lib.hid (And.intro hR1 hM1)
    clear hR1 hM1
    go_wp2_with fail
    go_ret
    exact ⟨_, rfl, HG.out.1, HG.out.2.below_own HF.out.2.1 HF.out.2.2, HG.out.2.kept HF.out.1.1⟩
end Go.Proofs.Ytnaefjilcabkoaa
end
section
namespace Go.Proofs.Ytnaefjilcabkoaa
set_option linter.unusedVariables false
set_option linter.unusedSimpArgs false
abbrev Srt (l : List Int) : Prop := l.Pairwise (· < ·)
theorem srt_ext : ∀ {a b : List Int}, Srt a → Srt b → (∀ x, x ∈ a ↔ x ∈ b) → a = b
  | [], [], _, _, _ => rfl
  | [], y :: b, _, _, h => absurd ((h y).2 List.mem_cons_self) (by simp)
  | x :: a, [], _, _, h => absurd ((h x).1 List.mem_cons_self) (by simp)
  | x :: a, y :: b, ha, hb, h => by
    obtain ⟨ha1, ha2⟩ := List.pairwise_cons.1 ha
    obtain ⟨hb1, hb2⟩ := List.pairwise_cons.1 hb
    have e : x = y := by
      rcases List.mem_cons.1 ((h x).1 List.mem_cons_self) with e | hx
      · exact e
      · rcases List.mem_cons.1 ((h y).2 List.mem_cons_self) with e | hy
        · exact e.symm
        · have := hb1 x hx; have := ha1 y hy; omega
    subst e
    congr 1
    refine srt_ext ha2 hb2 (fun z => ⟨fun hz => ?_, fun hz => ?_⟩)
    · rcases List.mem_cons.1 ((h z).1 (List.mem_cons_of_mem _ hz)) with e | hz2
      · subst e; exact absurd (ha1 z hz) (by omega)
      · exact hz2
    · rcases List.mem_cons.1 ((h z).2 (List.mem_cons_of_mem _ hz)) with e | hz2
      · subst e; exact absurd (hb1 z hz) (by omega)
      · exact hz2
theorem mem_putAt (l : List Int) (k : Nat) (x y : Int) : y ∈ putAt l k x ↔ y ∈ l ∨ y = x := by
  unfold putAt
  conv => rhs; rw [← List.take_append_drop k l]
  simp only [List.mem_append, List.mem_cons]
  exact ⟨by rintro (h | h | h) <;> simp [h], by rintro ((h | h) | h) <;> simp [h]⟩
theorem mem_putS (l : List Int) (x y : Int) : y ∈ putS l x ↔ y ∈ l ∨ y = x := by
  unfold putS
  split
  · constructor
    · exact .inl
    · rintro (h | rfl) <;> assumption
  · exact mem_putAt _ _ _ _
theorem len_putS (l : List Int) (x : Int) : (putS l x).length = if x ∈ l then l.length else l.length + 1 := by
  unfold putS
  split
  · rfl
  · exact putAt_len _ _ _ (List.countP_le_length)
theorem len_putS_le (l : List Int) (x : Int) : (putS l x).length ≤ l.length + 1 := by
  rw [len_putS]; split <;> omega
/-- In an ordered list, the first k elements (k: how many are smaller) are smaller, the others not. -/
theorem srt_cut : ∀ {l : List Int} (x : Int), Srt l → (∀ y, y ∈ l.take (l.countP (· < x)) → y < x) ∧ (∀ y, y ∈ l.drop (l.countP (· < x)) → x ≤ y)
  | [], x, _ => by simp
  | a :: l, x, h => by
    obtain ⟨h1, h2⟩ := List.pairwise_cons.1 h
    by_cases ha : a < x
    · rw [List.countP_cons_of_pos (by simpa using ha), List.take_succ_cons, List.drop_succ_cons]
      obtain ⟨i1, i2⟩ := srt_cut x h2
      refine ⟨fun y hy => ?_, i2⟩
      rcases List.mem_cons.1 hy with rfl | hy
      · exact ha
      · exact i1 y hy
    · have hz : l.countP (· < x) = 0 := by
        rw [List.countP_eq_zero]
        intro b hb
        have := h1 b hb
        simp; omega
      rw [List.countP_cons_of_neg (by simpa using ha), hz]
      refine ⟨fun y hy => by simp at hy, fun y hy => ?_⟩
      rcases List.mem_cons.1 (by simpa using hy) with rfl | hy
      · omega
      · have := h1 y hy; omega
theorem srt_putS {l : List Int} (h : Srt l) (x : Int) : Srt (putS l x) := by
  unfold putS
  split
  · exact h
  · rename_i hx
    obtain ⟨c1, c2⟩ := srt_cut x h
    have h' : Srt (l.take (l.countP (· < x)) ++ l.drop (l.countP (· < x))) := by rw [List.take_append_drop]; exact h
    unfold putAt
    obtain ⟨p1, p2, p3⟩ := List.pairwise_append.1 h'
    refine List.pairwise_append.2 ⟨p1, List.pairwise_cons.2 ⟨fun y hy => ?_, p2⟩, fun a ha b hb => ?_⟩
    · have h1 := c2 y hy
      have : y ≠ x := fun e => hx (e ▸ List.mem_of_mem_drop hy)
      omega
    · rcases List.mem_cons.1 hb with rfl | hb
      · exact c1 a ha
      · exact p3 a ha b hb
theorem putS_same {l : List Int} {x : Int} (h : x ∈ l) : putS l x = l := by unfold putS; rw [if_pos h]
abbrev takeO (l : List Int) (x : Int) : List Int := l.filter (fun y => !(y == x))
end Go.Proofs.Ytnaefjilcabkoaa
end
section
namespace Go.Proofs.Ytnaefjilcabkoaa.Q
open Go.RowKit Go.Proofs.YtnaefjilcabkoaaW.PrintWords Go.Proofs.YtnaefjilcabkoaaW.PrintLast Go.Proofs.YtnaefjilcabkoaaW.PrintMore
attribute [local go_sem] max2_int min2_int max_two min_two max_three min_three max_four min_four   -- for this text's walks alone
set_option linter.unusedVariables false
set_option linter.unusedSimpArgs false

/-! ### spec_l2Take: function 117 -/
def spec_l2Take.l0 : Nat → List Int → Int → List Int → Int → Option (List Int)
  | 0, _, _, _, _ => none
  | k + 1, x0, x1, x5, x6 => if x6 < (x0.length : Int) then (if 0 ≤ x6 then (if (rd x0 x6) = x1 then (spec_l2Take.l0 k x0 x1 x5 (wrap64 (x6 + 1))) else (if x5.length < 17592186044416 then (spec_l2Take.l0 k x0 x1 (x5 ++ [rd x0 x6]) (wrap64 (x6 + 1))) else (none))) else (none)) else (some x5)
def spec_l2Take.f (k : Nat) (l0 : List Int) (a1 : Int) : Option (List Int) := spec_l2Take.l0 k l0 a1 (([] : List Int)) 0
theorem spec_l2Take.mono_l : ∀ k, (∀ y0 y1 y2 y3, LeO (spec_l2Take.l0 k y0 y1 y2 y3) (spec_l2Take.l0 (k + 1) y0 y1 y2 y3))
  | 0 => fun _ _ _ _ r h => by simp [spec_l2Take.l0] at h
  | k + 1 => by
    have ih0 := spec_l2Take.mono_l k
    · intro y0 y1 y2 y3
      unfold spec_l2Take.l0
      repeat' first
      | (with_reducible exact ih0 _ _ _ _)
      | (with_reducible exact LeO.refl _)
      | (with_reducible exact LeO.none _)
      | (with_reducible refine LeO.ite ?_ ?_)
      | (with_reducible refine LeO.bind ?_ (fun _ => ?_))
      | exact ih0 _ _ _ _
      | exact LeO.none _
      | refine LeO.ite ?_ ?_
      | refine LeO.bind ?_ (fun _ => ?_)
theorem spec_l2Take.mono : ∀ a0 a1 k, LeO (spec_l2Take.f k a0 a1) (spec_l2Take.f (k + 1) a0 a1) := by
  intro a0 a1 k
  have ih0 := spec_l2Take.mono_l k
  unfold spec_l2Take.f
  repeat' first
      | (with_reducible exact ih0 _ _ _ _)
      | (with_reducible exact LeO.refl _)
      | (with_reducible exact LeO.none _)
      | (with_reducible refine LeO.ite ?_ ?_)
      | (with_reducible refine LeO.bind ?_ (fun _ => ?_))
      | exact ih0 _ _ _ _
      | exact LeO.none _
      | refine LeO.ite ?_ ?_
      | refine LeO.bind ?_ (fun _ => ?_)
set_option maxHeartbeats 8000000 in
set_option maxRecDepth 100000 in
theorem spec_l2Take.calls (k : Nat) (A0 : Option Addr) (c0 : Nat) (l0 : List Int) (a1 : Int) (r : List Int) (w : World) (hr0 : Kd.C (Kd.int .i64) w A0 l0.length l0) (hc0 : l0.length ≤ c0) (h : spec_l2Take.f k l0 a1 = some r) :
    Calls Try.prog 117 #[.slice A0 l0.length c0, .int .i64 a1] w fun e w' => ∃ v0_ : Value, e = .returned (v0_) ∧ Kd.R (Kd.int .i64) 3 w' w.heap.size (fun _ => True) v0_ r ∧ Below w.heap.size w w' := by
  have HR0 := Aside0.mk hr0
  have HC0 := Aside0.mk hc0
  clear hr0 hc0
  have HB := Aside0.mk (Below.refl w.heap.size w)
  have H : (spec_l2Take.l0 k l0 a1 (([] : List Int)) 0) = some r := h
  clear h
  obtain ⟨y150, hy150⟩ : ∃ y_ : List Int, y_ = (([] : List Int)) := ⟨_, rfl⟩
  replace H : (spec_l2Take.l0 k l0 a1 y150 0) = some r := by first | (rw [hy150]; with_reducible exact H) | (have H2_ := (Option.bind_some _ _).symm.trans H; rw [hy150]; with_reducible exact H2_) | (have H2_ := (Option.bind_some _ _).symm.trans H; with_reducible exact H2_) | with_reducible exact H | (rw [hy150]; exact H) | exact H
  have Ny150 := Aside0.mk hy150
  clear hy150
  have H' := Aside0.mk H
  clear H
  go_enter Try.func117, Try.ntmps117
  go_wp2_with (first | ((with_reducible refine gate_dst (N := 7) rfl ?_); refine Kd.R_lit (Kd.int .i64) _ 3 ?hg (N := 7) ?hd (xs := ([] : List Int)) (inner := []) (ok := fun _ => True) (okp := fun _ => True) ?hr ?hp (fun _ hk => hk) trivial (Below.refl _ _) (Nat.le_refl _) (by simp) ?_; (case hd => rfl); (case hg => rfl); (case hr => first | (go_simp; done) | (go_simp; rfl)); (case hp => exact (Reps.none _ _)); intro v151 w3 ho4 hb hg_ hnew_; clear hg_ hnew_; (first | rw [← Ny150.out] at ho4 | (simp only [Int.reduceToNat] at ho4; rw [← Ny150.out] at ho4)); have n0_ := Aside0.mk (Kd.R_lower ho4 (below_size (by repeat (first | (with_reducible first | exact HB.out | apply below_alloc | apply pw_below_drewN | apply below_drew1) | exact HB.out)))); have n1_ := Aside0.mk (below_step (by repeat (first | (with_reducible first | exact HB.out | apply below_alloc | apply pw_below_drewN | apply below_drew1) | exact HB.out)) hb); clear HB; have HO152 := n0_; have HB := n1_; clear n0_ n1_; clear hb ho4))
  go_loopg [5, 6] k (fun kq v5 v6 w' => ∃ (x5_1 : List Int) (x6_1 : Int), v6 = .int .i64 x6_1 ∧ Aside0 (spec_l2Take.l0 kq l0 a1 x5_1 x6_1 = some r) ∧ Aside0 (kq ≤ k) ∧ Aside0 (Kd.R (Kd.int .i64) 3 w' w.heap.size (fun _ => True) v5 x5_1) ∧ Aside0 (Below w.heap.size w w'))
  case atStart => exact ⟨(y150), (0), (by first | rfl | (simp; done) | (simp [*]; done)), H', ⟨Nat.le_refl _⟩, ⟨by (with_reducible repeat (first | apply Kd.R_alloc | apply Kd.R_drewN | apply Kd.R_drew)); exact HO152.out⟩, ⟨by repeat (first | (with_reducible first | exact HB.out | apply below_alloc | apply pw_below_drewN | apply below_drew1) | exact HB.out)⟩⟩
  case round =>
    clear H'
    try clear c1
    try clear p2
    obtain ⟨x5_1, x6_1, rfl, HA, HK1, HO_5, HB⟩ := hrel
    cases gk with
    | zero => exact absurd HA.out (by simp [spec_l2Take.l0])
    | succ k1 =>
      have H := HA.out
      clear HA
      simp only [spec_l2Take.l0] at H
      by_cases c5 : x6_1 < (l0.length : Int)
      · rw [if_pos c5] at H
        have c5b0 : decide (x6_1 < (l0.length : Int)) = true := decide_eq_true c5
        clear c5
        by_cases c6 : 0 ≤ x6_1
        · rw [if_pos c6] at H
          have c6b0 : decide (0 ≤ x6_1) = true := decide_eq_true c6
          clear c6
          by_cases c7 : (rd l0 x6_1) = a1
          · rw [if_pos c7] at H
            have c7b0 : ((rd l0 x6_1) == a1) = true := beq_iff_eq.mpr c7
            have c7b1 : ((rd l0 x6_1) != a1) = false := bne_eq_false_iff_eq.mpr c7
            clear c7
            have H' := Aside0.mk H
            clear H
            have p153 : 0 ≤ (x6_1 : Int) := of_decide_eq_true (by first | (with_reducible assumption) | assumption)
            have q153 : x6_1 < (l0.length : Int) := of_decide_eq_true (by first | (with_reducible assumption) | assumption)
            obtain ⟨ad153, e153, hx153_0⟩ := Kd.at_int HR0.out x6_1 p153 q153
            cases e153
            replace hx153_0 := (HB.out.cell (World.block_lt_of_cell? w _ hx153_0)).trans hx153_0
            replace p153 := eq_true p153
            replace q153 := eq_true q153
            go_wp2
            go_roundg k1
            case measure => have := HK1.out; omega
            case rel => exact ⟨(x5_1), (wrap64 (x6_1 + 1)), (by first | rfl | (simp; done) | (simp [*]; done)), H', ⟨by have := HK1.out; omega⟩, ⟨by (with_reducible repeat (first | apply Kd.R_alloc | apply Kd.R_drewN | apply Kd.R_drew)); exact HO_5.out⟩, ⟨by repeat (first | (with_reducible first | exact HB.out | apply below_alloc | apply pw_below_drewN | apply below_drew1) | exact HB.out)⟩⟩
          · rw [if_neg c7] at H
            have c7b0 : ((rd l0 x6_1) == a1) = false := beq_eq_false_iff_ne.mpr c7
            have c7b1 : ((rd l0 x6_1) != a1) = true := bne_iff_ne.mpr c7
            by_cases c8 : x5_1.length < 17592186044416
            · rw [if_pos c8] at H
              have LMc8 := Aside0.mk c8
              clear c8
              obtain ⟨y155, hy155⟩ : ∃ y_ : List Int, y_ = (x5_1 ++ [rd l0 x6_1]) := ⟨_, rfl⟩
              replace H : (spec_l2Take.l0 k1 l0 a1 y155 (wrap64 (x6_1 + 1))) = some r := by first | (rw [hy155]; with_reducible exact H) | (have H2_ := (Option.bind_some _ _).symm.trans H; rw [hy155]; with_reducible exact H2_) | (have H2_ := (Option.bind_some _ _).symm.trans H; with_reducible exact H2_) | with_reducible exact H | (rw [hy155]; exact H) | exact H
              have Ny155 := Aside0.mk hy155
              clear hy155
              have H' := Aside0.mk H
              clear H
              have p153 : 0 ≤ (x6_1 : Int) := of_decide_eq_true (by first | (with_reducible assumption) | assumption)
              have q153 : x6_1 < (l0.length : Int) := of_decide_eq_true (by first | (with_reducible assumption) | assumption)
              obtain ⟨ad153, e153, hx153_0⟩ := Kd.at_int HR0.out x6_1 p153 q153
              cases e153
              replace hx153_0 := (HB.out.cell (World.block_lt_of_cell? w _ hx153_0)).trans hx153_0
              replace p153 := eq_true p153
              replace q153 := eq_true q153
              have p154 : 0 ≤ (x6_1 : Int) := of_decide_eq_true (by first | (with_reducible assumption) | assumption)
              have q154 : x6_1 < (l0.length : Int) := of_decide_eq_true (by first | (with_reducible assumption) | assumption)
              obtain ⟨ad154, e154, hx154_0⟩ := Kd.at_int HR0.out x6_1 p154 q154
              obtain rfl : ad153 = ad154 := (by injection e154)
              replace hx154_0 := (HB.out.cell (World.block_lt_of_cell? w _ hx154_0)).trans hx154_0
              replace p154 := eq_true p154
              replace q154 := eq_true q154
              go_wp2_with (first | ((with_reducible refine gate_builtin (b := .append) (xs := #[.tmp 20, .tmp 25]) rfl ?_); at_builtin; refine Kd.R_append (Kd.int .i64) (w0 := w) w.heap.size rfl (.tmp 20) (.tmp 25) 22 3 (.int .i64 0) 8 rfl Try.underlying22 info3 rfl (by decide) (by omega) u5 x5_1 (rd l0 x6_1) [.int .i64 (rd l0 x6_1)] (fun _ => True) (fun _ => False) rfl rfl ?aP (fun _ hk => hk.elim) ?aF ?aO ?aB ?aS ?aL ?_; (case aP => exact rfl); (case aB => exact (by repeat (first | (with_reducible first | exact HB.out | apply below_alloc | apply pw_below_drewN | apply below_drew1) | exact HB.out))); (case aF => exact (fun _ _ => trivial)); (case aO => exact (by (with_reducible repeat (first | apply Kd.R_alloc | apply Kd.R_drewN | apply Kd.R_drew)); exact HO_5.out)); (case aS => exact (below_size (by repeat (first | (with_reducible first | exact HB.out | apply below_alloc | apply pw_below_drewN | apply below_drew1) | exact HB.out)))); (case aL => have := LMc8.out; omega); intro v156 w9 ho hb hg hat; rw [← Ny155.out] at ho; have n0_ := Aside0.mk (hb); have n1_ := Aside0.mk (ho); clear HB; clear HO_5; have HB := n0_; have HO157 := n1_; clear n0_ n1_; clear ho hb hg hat))
              go_roundg k1
              case measure => have := HK1.out; omega
              case rel => exact ⟨(y155), (wrap64 (x6_1 + 1)), (by first | rfl | (simp; done) | (simp [*]; done)), H', ⟨by have := HK1.out; omega⟩, ⟨by (with_reducible repeat (first | apply Kd.R_alloc | apply Kd.R_drewN | apply Kd.R_drew)); exact HO157.out⟩, ⟨by repeat (first | (with_reducible first | exact HB.out | apply below_alloc | apply pw_below_drewN | apply below_drew1) | exact HB.out)⟩⟩
            · rw [if_neg c8] at H
              exact absurd H (by simp)
        · rw [if_neg c6] at H
          exact absurd H (by simp)
      · rw [if_neg c5] at H
        have c5b0 : decide (x6_1 < (l0.length : Int)) = false := decide_eq_false c5
        clear c5
        obtain rfl := Option.some.inj H
        go_wp2
        go_ret
        exact ⟨_, by first | rfl | (simp [errW_none, errW_some] <;> rfl) | (simp [*, errW_none, errW_some] <;> rfl), by (with_reducible repeat (first | apply Kd.R_alloc | apply Kd.R_drewN | apply Kd.R_drew)); exact HO_5.out, by repeat (first | (with_reducible first | exact HB.out | apply below_alloc | apply pw_below_drewN | apply below_drew1) | exact HB.out)⟩

/-! ### cmp_isNaN_int: function 151 -/
def cmp_isNaN_int.f (a0 : Int) : Option (Bool) := some (a0 != a0)
set_option maxHeartbeats 8000000 in
set_option maxRecDepth 100000 in
theorem cmp_isNaN_int.calls (a0 : Int) (r : Bool) (w : World) (h : cmp_isNaN_int.f a0 = some r) :
    Calls Try.prog 151 #[.int .i64 a0] w fun e w' => e = .returned (.bool r) ∧ Drawn0 w w' := by
  have H : (some (a0 != a0)) = some r := h
  clear h
  obtain rfl := Option.some.inj H
  go_enter Try.func151, Try.ntmps151
  go_wp2
  go_ret
  exact ⟨by first | rfl | (simp; done) | (simp [*]; done), by repeat (first | exact Drawn0.refl _ | apply Drawn0.step)⟩

/-! ### cmp_Less_int: function 132 -/
def cmp_Less_int.f (a0 : Int) (a1 : Int) : Option (Bool) := (cmp_isNaN_int.f a0).bind fun t207 => (if t207 = true then ((cmp_isNaN_int.f a1).bind fun t208 => (if t208 = true then (some (decide (a0 < a1))) else (some true))) else (some (decide (a0 < a1))))
set_option maxHeartbeats 8000000 in
set_option maxRecDepth 100000 in
theorem cmp_Less_int.calls (a0 : Int) (a1 : Int) (r : Bool) (w : World) (h : cmp_Less_int.f a0 a1 = some r) :
    Calls Try.prog 132 #[.int .i64 a0, .int .i64 a1] w fun e w' => e = .returned (.bool r) ∧ Drawn0 w w' := by
  have H : ((cmp_isNaN_int.f a0).bind fun t207 => (if t207 = true then ((cmp_isNaN_int.f a1).bind fun t208 => (if t208 = true then (some (decide (a0 < a1))) else (some true))) else (some (decide (a0 < a1))))) = some r := h
  clear h
  replace H := Option.bind_eq_some_iff.mp H
  obtain ⟨t207, A30, H⟩ := H
  replace H : (if t207 = true then ((cmp_isNaN_int.f a1).bind fun t208 => (if t208 = true then (some (decide (a0 < a1))) else (some true))) else (some (decide (a0 < a1)))) = some r := H
  have A3 := Aside0.mk A30
  clear A30
  by_cases c4 : t207 = true
  · subst c4
    have H1 : ((cmp_isNaN_int.f a1).bind fun t208 => (if t208 = true then (some (decide (a0 < a1))) else (some true))) = some r := by rw [if_pos rfl] at H; exact H
    clear H
    have H := H1
    clear H1
    replace H := Option.bind_eq_some_iff.mp H
    obtain ⟨t208, A50, H⟩ := H
    replace H : (if t208 = true then (some (decide (a0 < a1))) else (some true)) = some r := H
    have A5 := Aside0.mk A50
    clear A50
    by_cases c6 : t208 = true
    · subst c6
      have H1 : (some (decide (a0 < a1))) = some r := by rw [if_pos rfl] at H; exact H
      clear H
      have H := H1
      clear H1
      obtain rfl := Option.some.inj H
      go_enter Try.func132, Try.ntmps132
      go_wp2_with (first | ((with_reducible refine gate_callee (f := 151) rfl ?_); refine goesL_ (some 6) rfl rfl Try.func151 (by kernel_rfl) rfl #[.int .i64 a0] rfl (by (try simp only [List.map_toArray, List.map_cons, List.map_nil]); first | done | rfl | (simp only [List.length_drop, List.length_take]; rfl)) ?_; (with_reducible refine (cmp_isNaN_int.calls a0 true _ A3.out).mono ?_); rintro e w' ⟨rfl, ⟨nd, rfl⟩⟩; refine ⟨_, rfl, ?_⟩) | (go_at_call 151; (with_reducible refine (cmp_isNaN_int.calls a1 true _ A5.out).mono ?_); rintro e w' ⟨rfl, ⟨nd, rfl⟩⟩))
      go_ret
      exact ⟨by first | rfl | (simp; done) | (simp [*]; done), by repeat (first | exact Drawn0.refl _ | apply Drawn0.step)⟩
    · replace c6 := Bool.eq_false_iff.mpr c6
      subst c6
      have H1 : (some true) = some r := by rw [if_neg (show ¬ (false = true) by decide)] at H; exact H
      clear H
      have H := H1
      clear H1
      obtain rfl := Option.some.inj H
      go_enter Try.func132, Try.ntmps132
      go_wp2_with (first | ((with_reducible refine gate_callee (f := 151) rfl ?_); refine goesL_ (some 6) rfl rfl Try.func151 (by kernel_rfl) rfl #[.int .i64 a0] rfl (by (try simp only [List.map_toArray, List.map_cons, List.map_nil]); first | done | rfl | (simp only [List.length_drop, List.length_take]; rfl)) ?_; (with_reducible refine (cmp_isNaN_int.calls a0 true _ A3.out).mono ?_); rintro e w' ⟨rfl, ⟨nd, rfl⟩⟩; refine ⟨_, rfl, ?_⟩) | (go_at_call 151; (with_reducible refine (cmp_isNaN_int.calls a1 false _ A5.out).mono ?_); rintro e w' ⟨rfl, ⟨nd, rfl⟩⟩))
      go_ret
      exact ⟨by first | rfl | (simp; done) | (simp [*]; done), by repeat (first | exact Drawn0.refl _ | apply Drawn0.step)⟩
  · replace c4 := Bool.eq_false_iff.mpr c4
    subst c4
    have H1 : (some (decide (a0 < a1))) = some r := by rw [if_neg (show ¬ (false = true) by decide)] at H; exact H
    clear H
    have H := H1
    clear H1
    obtain rfl := Option.some.inj H
    go_enter Try.func132, Try.ntmps132
    go_wp2_with (first | ((with_reducible refine gate_callee (f := 151) rfl ?_); refine goesL_ (some 6) rfl rfl Try.func151 (by kernel_rfl) rfl #[.int .i64 a0] rfl (by (try simp only [List.map_toArray, List.map_cons, List.map_nil]); first | done | rfl | (simp only [List.length_drop, List.length_take]; rfl)) ?_; (with_reducible refine (cmp_isNaN_int.calls a0 false _ A3.out).mono ?_); rintro e w' ⟨rfl, ⟨nd, rfl⟩⟩; refine ⟨_, rfl, ?_⟩))
    go_ret
    exact ⟨by first | rfl | (simp; done) | (simp [*]; done), by repeat (first | exact Drawn0.refl _ | apply Drawn0.step)⟩

end Go.Proofs.Ytnaefjilcabkoaa.Q
end
