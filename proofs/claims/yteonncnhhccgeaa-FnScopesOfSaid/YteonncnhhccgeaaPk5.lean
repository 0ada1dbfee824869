/- Words for the laws' proofs (part 5): contracts of functions, and plain lemmas. -/
import Derived.Lib.RowBridge
import Derived.Shelf.Slices.CompactI
import Derived.Shelf.Slices.In.SortNone
import Derived.Shelf.Sort.Plain
import Derived.Sort.OwnSortedInts
import Derived.Test.YteonncnhhccgeaaPk1
import Derived.Test.YteonncnhhccgeaaPk2
import Derived.Test.YteonncnhhccgeaaPk3
import Derived.Test.YteonncnhhccgeaaPk4
section
namespace Go.Proofs.Yteonncnhhccgeaa
open Go.RowKit Go.Proofs.YteonncnhhccgeaaW.PrintWords Go.Proofs.YteonncnhhccgeaaW.PrintLast Go.Proofs.YteonncnhhccgeaaW.PrintMore
set_option linter.unusedVariables false
set_option linter.unusedSimpArgs false
mutual
def foldF {σ : Type} (step : σ → Fm → σ) : Fm → σ → σ
  | ⟨a, b, c, d, ks⟩, s => foldFs step ks (step s ⟨a, b, c, d, ks⟩)
def foldFs {σ : Type} (step : σ → Fm → σ) : List Fm → σ → σ
  | [], s => s
  | k :: ks, s => foldFs step ks (foldF step k s)
end
theorem foldF_eq {σ : Type} (step : σ → Fm → σ) (x : Fm) (s : σ) : foldF step x s = foldFs step x.f4 (step s x) := by cases x; rw [foldF]
theorem foldFs_append {σ : Type} (step : σ → Fm → σ) (a b : List Fm) (s : σ) : foldFs step (a ++ b) s = foldFs step b (foldFs step a s) := by
  induction a generalizing s with
  | nil => rw [List.nil_append, foldFs]
  | cons k ks ih => rw [List.cons_append, foldFs, foldFs, ih]
mutual
def costF (cost : Fm → Nat) : Fm → Nat
  | ⟨a, b, c, d, ks⟩ => cost ⟨a, b, c, d, ks⟩ + costFs cost ks
def costFs (cost : Fm → Nat) : List Fm → Nat
  | [] => 0
  | k :: ks => costF cost k + costFs cost ks
end
theorem costF_eq (cost : Fm → Nat) (x : Fm) : costF cost x = cost x + costFs cost x.f4 := by cases x; rw [costF]
theorem costFs_append (cost : Fm → Nat) (a b : List Fm) : costFs cost (a ++ b) = costFs cost a + costFs cost b := by
  induction a with
  | nil => rw [List.nil_append, costFs, Nat.zero_add]
  | cons k ks ih => rw [List.cons_append, costFs, costFs, ih, Nat.add_assoc]
theorem foldFs_len {σ : Type} {step : σ → Fm → σ} {len : σ → Nat} {cost : Fm → Nat} (hlen : ∀ s y, len (step s y) ≤ len s + cost y) (x : Fm) : ∀ s, len (foldF step x s) ≤ len s + costF cost x := by
  induction x using Fm.ind with
  | h x ih =>
    intro s
    rw [foldF_eq, costF_eq]
    have key : ∀ (ks : List Fm), (∀ k, k ∈ ks → k ∈ x.f4) → ∀ s, len (foldFs step ks s) ≤ len s + costFs cost ks := by
      intro ks
      induction ks with
      | nil => intro _ s; rw [foldFs, costFs]; omega
      | cons k ks ih2 =>
        intro hs s
        rw [foldFs, costFs]
        have h1 := ih2 (fun k hk => hs k (List.mem_cons_of_mem _ hk)) (foldF step k s)
        have h2 := ih k (hs k List.mem_cons_self) s
        omega
    have h1 := key x.f4 (fun _ h => h) (step s x)
    have h2 := hlen s x
    omega
theorem foldFs_lenL {σ : Type} {step : σ → Fm → σ} {len : σ → Nat} {cost : Fm → Nat} (hlen : ∀ s y, len (step s y) ≤ len s + cost y) (ks : List Fm) : ∀ s, len (foldFs step ks s) ≤ len s + costFs cost ks := by
  induction ks with
  | nil => intro s; rw [foldFs, costFs]; omega
  | cons k ks ih =>
    intro s
    rw [foldFs, costFs]
    have h1 := ih (foldF step k s)
    have h2 := foldFs_len hlen k s
    omega
/-- What a call leaves of a state: it lies in S', which is S and new blocks. -/
def StPost {σ : Type} (St : World → List Nat → σ → Prop) (S : List Nat) (s : σ) (w : World) (e : Ending) (w' : World) : Prop :=
  e = .returned (.tuple #[]) ∧ ∃ S', St w' S' s ∧ Mk S w w' ∧ ∀ b, b ∈ S' → b ∈ S ∨ w.heap.size ≤ b
section
variable {σ : Type} (w0 : World) (g : Nat) (lb : Array Value) (St : World → List Nat → σ → Prop) (step : σ → Fm → σ) (len : σ → Nat) (cost : Fm → Nat) (N : Nat)
def EachOk (x : Fm) : Prop := ∀ (A3 : Option Addr) (c3 : Nat) (A4 : Option Addr) (c4 : Nat) (s : σ) (S : List Nat) (w : World), FmIn w0 x A3 c3 A4 c4 → Below w0.heap.size w0 w → St w S s → (∀ b, b ∈ S → w0.heap.size ≤ b) → len s + costF cost x ≤ N →
  Calls Try.prog 91 #[.agg #[.int .i64 x.f0, .string x.f1, .int .i64 x.f2, .slice A3 x.f3.length c3, .slice A4 x.f4.length c4], .func (.func g) #[] lb] w (StPost St S (foldF step x s) w)
set_option maxHeartbeats 4000000 in
theorem eachForm_any (eg : ∀ args w, (callFunc g args).run Try.prog w = .ok (.enter g args) w)
    (hmove : ∀ (w w' : World) (S : List Nat) (s : σ), St w S s → (∀ b, b ∈ S → w'.heap[b]? = w.heap[b]?) → St w' S s)
    (hlt : ∀ (w : World) (S : List Nat) (s : σ), St w S s → ∀ b, b ∈ S → b < w.heap.size)
    (hlen : ∀ s y, len (step s y) ≤ len s + cost y)
    (hdo : ∀ (y : Fm) (A3 : Option Addr) (c3 : Nat) (A4 : Option Addr) (c4 : Nat) (s : σ) (S : List Nat) (w : World), FmIn w0 y A3 c3 A4 c4 → Below w0.heap.size w0 w → St w S s → (∀ b, b ∈ S → w0.heap.size ≤ b) → len s + cost y ≤ N →
      Calls Try.prog g (#[.agg #[.int .i64 y.f0, .string y.f1, .int .i64 y.f2, .slice A3 y.f3.length c3, .slice A4 y.f4.length c4]] ++ lb) w (StPost St S (step s y) w))
    (x : Fm) : EachOk w0 g lb St step len cost N x := by
  induction x using Fm.ind with
  | h x ih =>
    intro A3 c3 A4 c4 s S w hin hb hs hS hN
    have hmax := hin.g4.2.1
    rw [costF_eq] at hN
    have hbx := below_new w (.cells #[.int .i64 x.f0, .string x.f1, .int .i64 x.f2, .slice A3 x.f3.length c3, .slice A4 x.f4.length c4] 31)
    have HD := Lib.hid (hdo x A3 c3 A4 c4 s S (w.alloc (.cells #[.int .i64 x.f0, .string x.f1, .int .i64 x.f2, .slice A3 x.f3.length c3, .slice A4 x.f4.length c4] 31)) hin (below_step hb hbx) (hmove _ _ _ _ hs (fun b hb => hbx.block b (hlt _ _ _ hs b hb))) hS (by omega))
    have HI := Lib.hid (And.intro hin (And.intro hb (And.intro hs hS)))
    have HX := Lib.hid hbx
    have IH := Lib.hid ih
    have EG := Lib.hid eg
    have hls := hlen s x
    have HNN := Lib.hid (show len (step s x) + costFs cost x.f4 ≤ N by omega)
    clear hin hb hs hS hN hbx ih hls hdo
    have HM := Lib.hid hmove
    have HL := Lib.hid hlt
    have HLN := Lib.hid hlen
    clear hmove hlt hlen
    go_enter Try.func91, Try.ntmps91
    go_wp2_with fail
    refine HD.out.mono ?_
    rintro e w1 ⟨rfl, S1, h1, hM1, hS1⟩
    have hk0 : w1.heap[w.heap.size]? = some (.cells #[.int .i64 x.f0, .string x.f1, .int .i64 x.f2, .slice A3 x.f3.length c3, .slice A4 x.f4.length c4] 31 (0, 0)) :=
      (hM1.keep w.heap.size (by simp) (fun hm => by have := HL.out _ _ _ HI.out.2.2.1 _ hm; omega)).trans (blk_new w _)
    obtain ⟨_, _, _, _, p4⟩ := fm_cells hk0
    have hsz1 : w.heap.size + 1 ≤ w1.heap.size := by have := hM1.b0.size; simpa using this
    have hne1 : ∀ b, b ∈ S1 → b ≠ w.heap.size := fun b hb he => by
      rcases hS1 b hb with h | h
      · have := HL.out _ _ _ HI.out.2.2.1 _ h; omega
      · simp at h; omega
    have HF := Lib.hid (show St w1 S1 (step s x) ∧ Mk S w w1 ∧ (∀ b, b ∈ S1 → b ∈ S ∨ w.heap.size ≤ b) ∧ (∀ b, b ∈ S1 → b ≠ w.heap.size) ∧ w1.heap[w.heap.size]? = some (.cells #[.int .i64 x.f0, .string x.f1, .int .i64 x.f2, .slice A3 x.f3.length c3, .slice A4 x.f4.length c4] 31 (0, 0)) ∧ w.heap.size + 1 ≤ w1.heap.size from
      ⟨h1, (Mk.ofBelow HX.out).trans hM1, fun b hb => (hS1 b hb).imp id (fun h => by simp at h; omega), hne1, hk0, hsz1⟩)
    clear h1 hM1 hS1 hk0 hsz1 hne1 HD
    go_wp2_with fail
    go_loopg [5, 12] x.f4.length (fun kq v5 v12 w' => ∃ i : Nat, i ≤ x.f4.length ∧ x.f4.length - i ≤ kq ∧ v12 = .int .i64 i ∧ Aside0 (∃ S', St w' S' (foldFs step (x.f4.take i) (step s x)) ∧ Mk S w w' ∧ (∀ b, b ∈ S' → b ∈ S ∨ w.heap.size ≤ b)))
    case atStart => exact ⟨0, Nat.zero_le _, by omega, rfl, ⟨⟨S1, by rw [List.take_zero, foldFs]; exact HF.out.1, HF.out.2.1, HF.out.2.2.1⟩⟩⟩
    case round =>
      obtain ⟨i, hi, hg, rfl, HO⟩ := hrel
      by_cases hlt : i < x.f4.length
      · have hbw : Below w0.heap.size w0 wr := by
          obtain ⟨S', h1, h2, h3⟩ := HO.out
          exact HI.out.2.1.trans (h2.below HI.out.2.1.size HI.out.2.2.2)
        obtain ⟨ad, G3, m3, G4, m4, e, g0, g1, g2, g3, g4, hk⟩ := kid_at HI.out.1.g4 i hlt
        subst e
        replace g0 := ck0 hbw g0
        replace g1 := ck0 hbw g1
        replace g2 := ck0 hbw g2
        replace g3 := ck0 hbw g3
        replace g4 := ck0 hbw g4
        have HK := Lib.hid hk
        have HBW := Lib.hid hbw
        clear hk hbw
        go_wp2_with fail
        obtain ⟨S', h1, h2, h3⟩ := HO.out
        have hnw := below_new wr (.cells #[.int .i64 x.f4[i].f0, .string x.f4[i].f1, .int .i64 x.f4[i].f2, .slice G3 x.f4[i].f3.length m3, .slice G4 x.f4[i].f4.length m4] 31)
        have hcost : costFs cost (x.f4.take (i + 1)) ≤ costFs cost x.f4 := by
          conv => rhs; rw [← List.take_append_drop (i + 1) x.f4, costFs_append]
          omega
        have hcs : costFs cost (x.f4.take (i + 1)) = costFs cost (x.f4.take i) + costF cost x.f4[i] := by
          rw [List.take_succ_eq_append_getElem hlt, costFs_append]
          simp [costFs]
        have hl2 := foldFs_lenL HLN.out (x.f4.take i) (step s x)
        refine (IH.out x.f4[i] (List.getElem_mem hlt) G3 m3 G4 m4 _ S' _ HK.out (below_step HBW.out hnw) (HM.out _ _ _ _ h1 (fun b hb => hnw.block b (HL.out _ _ _ h1 b hb))) (fun b hb => by
          rcases h3 b hb with h | h
          · exact HI.out.2.2.2 b h
          · exact Nat.le_trans HI.out.2.1.size h) (by have := HNN.out; omega)).mono ?_
        rintro e w2 ⟨rfl, S2, q1, q2, q3⟩
        have HQ := Lib.hid (show ∃ S', St w2 S' (foldFs step (x.f4.take (i + 1)) (step s x)) ∧ Mk S w w2 ∧ (∀ b, b ∈ S' → b ∈ S ∨ w.heap.size ≤ b) from by
          have hm3 : Mk S w w2 := by
            have hm4 := ((Mk.ofBelow hnw (S := S')).trans q2)
            refine ⟨h2.b0.trans hm4.b0, fun b hb hn => ?_⟩
            have hbs := h2.b0.size
            rw [hm4.keep b (by omega) (fun hm => by
              rcases h3 b hm with h | h
              · exact hn h
              · omega)]
            exact h2.keep b hb hn
          refine ⟨S2, ?_, hm3, fun b hb => ?_⟩
          · rw [List.take_succ_eq_append_getElem hlt, foldFs_append]
            simpa [foldFs] using q1
          · rcases q3 b hb with h | h
            · exact h3 b h
            · refine .inr ?_
              have := h2.b0.size
              simp at h
              omega)
        clear h1 h2 h3 q1 q2 q3 hnw hcost hcs hl2 HK HBW
        go_wp2_with fail
        go_roundg (x.f4.length - (i + 1))
        case measure => omega
        case rel => exact ⟨i + 1, by omega, Nat.le_refl _, by go_num, ⟨HQ.out⟩⟩
      · obtain rfl : i = x.f4.length := by omega
        go_wp2_with fail
        go_end0
        obtain ⟨S', h1, h2, h3⟩ := HO.out
        rw [List.take_length] at h1
        exact ⟨rfl, S', by rw [foldF_eq]; exact h1, h2, h3⟩
end
end Go.Proofs.Yteonncnhhccgeaa
end
section
namespace Go.Proofs.Yteonncnhhccgeaa
open Go.RowKit Go.Proofs.YteonncnhhccgeaaW.PrintWords Go.Proofs.YteonncnhhccgeaaW.PrintLast Go.Proofs.YteonncnhhccgeaaW.PrintMore
set_option linter.unusedVariables false
set_option linter.unusedSimpArgs false
theorem C_zero {α : Type} (d : Kd α) (w : World) (A : Option Addr) : d.C w A ([] : List α).length [] := ⟨rfl, by simp, fun h => absurd h (Nat.lt_irrefl 0)⟩
/-- A row of numbers is handed back. -/
def GetI (w : World) (r : List Int) (e : Ending) (w' : World) : Prop := ∃ A c, e = .returned (.slice A r.length c) ∧ r.length ≤ c ∧ kI.C w' A r.length r ∧ Below w.heap.size w w'
def putAll (s : List Int) (y : Fm) : List Int := y.f3.foldl putS s
theorem srt_putL : ∀ (xs : List Int) {l : List Int}, Srt l → Srt (xs.foldl putS l)
  | [], _, h => h
  | x :: xs, _, h => srt_putL xs (srt_putS h x)
theorem len_putL : ∀ (xs : List Int) (l : List Int), (xs.foldl putS l).length ≤ l.length + xs.length
  | [], l => by simp
  | x :: xs, l => by
    have h1 := len_putL xs (putS l x)
    have h2 := len_putS_le l x
    simp only [List.foldl_cons, List.length_cons]
    omega
theorem mem_putL : ∀ (xs : List Int) (l : List Int) (y : Int), y ∈ xs.foldl putS l ↔ y ∈ l ∨ y ∈ xs
  | [], l, y => by simp
  | x :: xs, l, y => by
    simp only [List.foldl_cons, List.mem_cons]
    rw [mem_putL xs, mem_putS]
    constructor
    · rintro ((h | h) | h)
      · exact .inl h
      · exact .inr (.inl h)
      · exact .inr (.inr h)
    · rintro (h | h | h)
      · exact .inl (.inl h)
      · exact .inl (.inr h)
      · exact .inr h
theorem take_foldl {α β : Type} (f : β → α → β) (b : β) (xs : List α) (i : Nat) (h : i < xs.length) : (xs.take (i + 1)).foldl f b = f ((xs.take i).foldl f b) xs[i] := by
  rw [List.take_succ_eq_append_getElem h, List.foldl_append]; rfl
mutual
theorem srt_all : ∀ (x : Fm) {l : List Int}, Srt l → Srt (foldF putAll x l)
  | ⟨a, b, c, d, ks⟩, l, h => by rw [foldF]; exact srt_allL ks (srt_putL d h)
theorem srt_allL : ∀ (ks : List Fm) {l : List Int}, Srt l → Srt (foldFs putAll ks l)
  | [], l, h => by rw [foldFs]; exact h
  | k :: ks, l, h => by rw [foldFs]; exact srt_allL ks (srt_all k h)
end
mutual
theorem len_all : ∀ (x : Fm) (l : List Int), (foldF putAll x l).length ≤ l.length + x.tot
  | ⟨a, b, c, d, ks⟩, l => by
    rw [foldF, Fm.tot_eq]
    have h1 := len_allL ks (putAll l ⟨a, b, c, d, ks⟩)
    have h2 := len_putL d l
    show _ ≤ l.length + (b.size + d.length + totL ks)
    have h3 : (putAll l ⟨a, b, c, d, ks⟩).length = (d.foldl putS l).length := rfl
    omega
theorem len_allL : ∀ (ks : List Fm) (l : List Int), (foldFs putAll ks l).length ≤ l.length + totL ks
  | [], l => by rw [foldFs]; omega
  | k :: ks, l => by
    rw [foldFs]
    have h1 := len_allL ks (foldF putAll k l)
    have h2 := len_all k l
    simp only [totL]
    omega
end
mutual
theorem mem_all : ∀ (x : Fm) (l : List Int) (n : Int), n ∈ foldF putAll x l ↔ n ∈ l ∨ n ∈ foldF putAll x []
  | ⟨a, b, c, d, ks⟩, l, n => by
    rw [foldF, foldF, mem_allL ks, mem_allL ks (putAll [] _)]
    show n ∈ d.foldl putS l ∨ _ ↔ n ∈ l ∨ n ∈ d.foldl putS [] ∨ _
    rw [mem_putL, mem_putL]
    simp [or_assoc]
theorem mem_allL : ∀ (ks : List Fm) (l : List Int) (n : Int), n ∈ foldFs putAll ks l ↔ n ∈ l ∨ n ∈ foldFs putAll ks []
  | [], l, n => by rw [foldFs, foldFs]; simp
  | k :: ks, l, n => by
    rw [foldFs, foldFs, mem_allL ks, mem_allL ks (foldF putAll k []), mem_all k]
    simp [or_assoc]
end
def AllOk (x : Fm) : Prop := ∀ (l : List Int) (A : Option Addr) (c : Nat) (A3 : Option Addr) (c3 : Nat) (A4 : Option Addr) (c4 : Nat) (w : World), kI.C w A l.length l → l.length ≤ c → Srt l → FmIn w x A3 c3 A4 c4 → l.length + x.tot ≤ 1000000 →
  Calls Try.prog 137 #[.slice A l.length c, .agg #[.int .i64 x.f0, .string x.f1, .int .i64 x.f2, .slice A3 x.f3.length c3, .slice A4 x.f4.length c4]] w (GetI w (foldF putAll x l))
set_option maxHeartbeats 4000000 in
theorem l2All_any (x : Fm) : AllOk x := by
  induction x using Fm.ind with
  | h x ih =>
    intro l A c A3 c3 A4 c4 w hr hc hs hin ht
    have htt := x.tot_eq
    have hm3 : x.f3.length ≤ 1000000 := by omega
    have hm4 : x.f4.length ≤ 1000000 := by have := len_totL x.f4; omega
    have IH := Lib.hid ih
    have hb0 := below_new w (.cells #[.int .i64 x.f0, .string x.f1, .int .i64 x.f2, .slice A3 x.f3.length c3, .slice A4 x.f4.length c4] 31)
    have HK := Lib.hid (blk_new w (.cells #[.int .i64 x.f0, .string x.f1, .int .i64 x.f2, .slice A3 x.f3.length c3, .slice A4 x.f4.length c4] 31))
    have HI := Lib.hid (hin.below hb0)
    have HR := Lib.hid (Kd.C_below hr hb0)
    have HS := Lib.hid hs
    have HB := Lib.hid hb0
    have HT := Lib.hid ht
    have HTT := Lib.hid htt
    clear ih hin hr hs hb0 htt ht
    go_enter Try.func137, Try.ntmps137
    go_wp2_with fail
    generalize w.alloc (.cells #[.int .i64 x.f0, .string x.f1, .int .i64 x.f2, .slice A3 x.f3.length c3, .slice A4 x.f4.length c4] 31) = wz at HK HI HR HB ⊢
    go_loopg [0, 5] x.f3.length (fun kq v0 v5 w' => ∃ (i : Nat) (B : Option Addr) (d : Nat), i ≤ x.f3.length ∧ x.f3.length - i ≤ kq ∧ v5 = .int .i64 i ∧ v0 = .slice B ((x.f3.take i).foldl putS l).length d ∧ Aside0 (((x.f3.take i).foldl putS l).length ≤ d ∧ kI.C w' B ((x.f3.take i).foldl putS l).length ((x.f3.take i).foldl putS l)) ∧ Aside0 (Below wz.heap.size wz w'))
    case atStart => exact ⟨0, A, c, Nat.zero_le _, by omega, rfl, rfl, ⟨hc, HR.out⟩, ⟨Below.refl _ _⟩⟩
    case round =>
      obtain ⟨i, B, d, hi, hg, rfl, rfl, HL, HW⟩ := hrel
      obtain ⟨p0, p1, p2, p3, p4⟩ := fm_cells (blk_below HK.out HW.out)
      by_cases hlt : i < x.f3.length
      · obtain ⟨ad, e, g0⟩ := int_at (Kd.C_below HI.out.g3 HW.out) i hlt
        subst e
        have h1 := srt_putL (x.f3.take i) HS.out
        have h2 := len_putL (x.f3.take i) l
        have h3 : (x.f3.take i).length ≤ x.f3.length := by rw [List.length_take]; exact Nat.min_le_right _ _
        have HP := Lib.hid (l2Put_any _ x.f3[i] B d wr HL.out.2 HL.out.1 h1 (by have := HT.out; have := HTT.out; omega))
        have HTK := Lib.hid (take_foldl putS l x.f3 i hlt)
        clear h1 h2 h3
        go_wp2_with fail
        clear p0 p1 p2 p3 p4 g0
        refine HP.out.mono ?_
        rintro e w1 ⟨v, rfl, hv, hb⟩
        obtain ⟨E, d2, rfl, hl2, hc2⟩ := Kd.R_reads hv
        have HN := Lib.hid hc2
        have HN2 := Lib.hid hl2
        have HW1 := Lib.hid (below_step HW.out hb)
        clear hv hl2 hc2 hb
        go_wp2_with fail
        go_roundg (x.f3.length - (i + 1))
        case measure => omega
        case rel => exact ⟨i + 1, E, d2, by omega, Nat.le_refl _, by go_num, by rw [HTK.out], ⟨by rw [HTK.out]; exact ⟨HN2.out, HN.out⟩⟩, ⟨HW1.out⟩⟩
      · obtain rfl : i = x.f3.length := by omega
        rw [List.take_length] at HL ⊢
        have HS2 := Lib.hid (srt_putL x.f3 HS.out)
        have HL2 := Lib.hid (len_putL x.f3 l)
        generalize hL2 : x.f3.foldl putS l = l2 at HL HS2 HL2 ⊢
        have HLE := Lib.hid hL2
        clear hL2
        go_wp2_with fail
        clear p0 p1 p2 p3 p4
        have HI2 := Lib.hid (HI.out.below HW.out)
        have HK2 := Lib.hid (blk_below HK.out HW.out)
        have HB2 := Lib.hid (below_step HB.out HW.out)
        have HL3 := Lib.hid HL.out
        clear HI HK HB HW HL
        have hmL : x.f4.length ≤ totL x.f4 + x.f4.length := by omega
        clear hmL
        go_loopg [0, 6] x.f4.length (fun kq v0 v6 w' => ∃ (i : Nat) (B : Option Addr) (d : Nat), i ≤ x.f4.length ∧ x.f4.length - i ≤ kq ∧ v6 = .int .i64 i ∧ v0 = .slice B (foldFs putAll (x.f4.take i) l2).length d ∧ Aside0 ((foldFs putAll (x.f4.take i) l2).length ≤ d ∧ kI.C w' B (foldFs putAll (x.f4.take i) l2).length (foldFs putAll (x.f4.take i) l2)) ∧ Aside0 (Below wr.heap.size wr w'))
        case atStart => exact ⟨0, B, d, Nat.zero_le _, by omega, rfl, by rw [List.take_zero, foldFs], ⟨by rw [List.take_zero, foldFs]; exact HL3.out⟩, ⟨Below.refl _ _⟩⟩
        case round =>
          obtain ⟨i, B, d, hi, hg, rfl, rfl, HL, HW⟩ := hrel
          obtain ⟨p0, p1, p2, p3, p4⟩ := fm_cells (blk_below HK2.out HW.out)
          by_cases hlt : i < x.f4.length
          · obtain ⟨ad, G3, m3, G4, m4, e, g0, g1, g2, g3, g4, hk⟩ := kid_at (Kd.C_below HI2.out.g4 HW.out) i hlt
            subst e
            have h2 := len_allL (x.f4.take i) l2
            have h3 : totL (x.f4.take i) + x.f4[i].tot ≤ totL x.f4 := by
              have h4 : totL (x.f4.take (i + 1)) ≤ totL x.f4 := by
                have := totL_append (x.f4.take (i + 1)) (x.f4.drop (i + 1))
                rw [List.take_append_drop] at this
                omega
              rw [List.take_succ_eq_append_getElem hlt, totL_append] at h4
              simp only [totL] at h4
              omega
            have HP := Lib.hid (IH.out x.f4[i] (List.getElem_mem hlt) _ B d G3 m3 G4 m4 wr HL.out.2 HL.out.1 (srt_allL (x.f4.take i) HS2.out) hk (by have := HT.out; have := HTT.out; have := HL2.out; omega))
            have HTK := Lib.hid (show foldFs putAll (x.f4.take (i + 1)) l2 = foldF putAll x.f4[i] (foldFs putAll (x.f4.take i) l2) by rw [List.take_succ_eq_append_getElem hlt, foldFs_append, foldFs, foldFs])
            clear h2 h3 hk
            go_wp2_with fail
            clear p0 p1 p2 p3 p4 g0 g1 g2 g3 g4
            refine HP.out.mono ?_
            rintro e w1 ⟨E, d2, rfl, hl2, hc2, hb⟩
            have HN := Lib.hid (And.intro hl2 hc2)
            have HW1 := Lib.hid (below_step HW.out hb)
            clear hl2 hc2 hb
            go_wp2_with fail
            go_roundg (x.f4.length - (i + 1))
            case measure => omega
            case rel => exact ⟨i + 1, E, d2, by omega, Nat.le_refl _, by go_num, by rw [HTK.out], ⟨by rw [HTK.out]; exact HN.out⟩, ⟨HW1.out⟩⟩
          · obtain rfl : i = x.f4.length := by omega
            rw [List.take_length] at HL ⊢
            have HE := Lib.hid (show foldF putAll x l = foldFs putAll x.f4 l2 by rw [foldF_eq, ← HLE.out]; rfl)
            go_wp2_with fail
            go_ret
            exact ⟨B, d, by rw [HE.out]; rfl, by rw [HE.out]; exact HL.out.1, by rw [HE.out]; exact HL.out.2, below_step HB2.out HW.out⟩
/-- The scopes of a form's names, as_ a set; of no valid form: none. -/
noncomputable def scAll (x : Fm) : List Int := if pB (FmOk x) = true then foldF putAll x [] else []
set_option maxHeartbeats 1000000 in
theorem specScopes_any (x : Fm) (A3 : Option Addr) (c3 : Nat) (A4 : Option Addr) (c4 : Nat) (w : World) (hin : FmIn w x A3 c3 A4 c4) (ht : x.tot ≤ 1000000) :
    Calls Try.prog 77 #[.agg #[.int .i64 x.f0, .string x.f1, .int .i64 x.f2, .slice A3 x.f3.length c3, .slice A4 x.f4.length c4]] w (GetI w (scAll x)) := by
  have hb0 := below_new w (.cells #[.int .i64 x.f0, .string x.f1, .int .i64 x.f2, .slice A3 x.f3.length c3, .slice A4 x.f4.length c4] 31)
  have HV := Lib.hid (specValid_any x A3 c3 A4 c4 _ (hin.below hb0) (by omega))
  have HI := Lib.hid (hin.below hb0)
  have HB := Lib.hid hb0
  have HK := Lib.hid (blk_new w (.cells #[.int .i64 x.f0, .string x.f1, .int .i64 x.f2, .slice A3 x.f3.length c3, .slice A4 x.f4.length c4] 31))
  have HT := Lib.hid ht
  clear hin hb0 ht
  unfold scAll
  rcases hv : pB (FmOk x) with _ | _
  · rw [hv] at HV
    rw [if_neg (by simp)]
    go_enter Try.func77, Try.ntmps77
    go_wp2_with fail
    refine HV.out.mono ?_
    rintro e w1 ⟨rfl, hb⟩
    have HB1 := Lib.hid (below_step HB.out hb)
    clear hb
    go_wp2_with fail
    go_ret
    exact ⟨_, _, rfl, Nat.le_refl _, C_zero _ _ _, below_step HB1.out (below_new _ _)⟩
  · rw [hv] at HV
    rw [if_pos rfl]
    go_enter Try.func77, Try.ntmps77
    go_wp2_with fail
    refine HV.out.mono ?_
    rintro e w1 ⟨rfl, hb⟩
    have HB1 := Lib.hid (below_step HB.out hb)
    have hbx := below_new w1 (.cells #[] 3)
    have HP := Lib.hid (l2All_any x [] (some ⟨w1.heap.size, 0, none⟩) 0 A3 c3 A4 c4 _ (C_zero kI (w1.alloc (.cells #[] 3)) _) (Nat.le_refl _) List.Pairwise.nil ((HI.out.below hb).below hbx) (by have := HT.out; simp; omega))
    have HBX := Lib.hid (below_step HB1.out hbx)
    obtain ⟨p0, p1, p2, p3, p4⟩ := fm_cells (blk_below (blk_below HK.out hb) hbx)
    clear hb hbx
    go_wp2_with fail
    clear p0 p1 p2 p3 p4
    refine HP.out.mono ?_
    rintro e w2 ⟨E, d, rfl, hl, hc, hb⟩
    have HN := Lib.hid (And.intro hl hc)
    have HB2 := Lib.hid (below_step HBX.out hb)
    clear hl hc hb
    go_wp2_with fail
    go_ret
    exact ⟨E, d, rfl, HN.out.1, HN.out.2, HB2.out⟩
end Go.Proofs.Yteonncnhhccgeaa
end
section
namespace Go.Proofs.Yteonncnhhccgeaa
open Go.RowKit Go.Proofs.YteonncnhhccgeaaW.PrintWords Go.Proofs.YteonncnhhccgeaaW.PrintLast Go.Proofs.YteonncnhhccgeaaW.PrintMore
set_option linter.unusedVariables false
set_option linter.unusedSimpArgs false
theorem cut_facts (d : Array Int) (hs : ∀ i j, i < j → j < d.size → d[i]! ≤ d[j]!) : ∀ m, m ≤ d.size → Srt (Lib.compactUpTo d m) ∧ ∀ x, x ∈ Lib.compactUpTo d m ↔ ∃ j, j < m ∧ d[j]! = x
  | 0, _ => ⟨by simp [Lib.compactUpTo], fun x => by simp [Lib.compactUpTo]⟩
  | m + 1, hm => by
    obtain ⟨h1, h2⟩ := cut_facts d hs m (by omega)
    rw [Lib.compactUpTo_succ]
    by_cases hk : Lib.keeps d m = true
    · rw [if_pos hk]
      refine ⟨List.pairwise_append.2 ⟨h1, by simp, fun a ha b hb => ?_⟩, fun x => ?_⟩
      · obtain ⟨j, hj, rfl⟩ := (h2 a).1 ha
        obtain rfl := List.mem_singleton.1 hb
        have hne : d[m]! ≠ d[m - 1]! := by
          rcases of_decide_eq_true hk with h | h
          · omega
          · exact h
        have a1 : d[m - 1]! ≤ d[m]! := hs (m - 1) m (by omega) (by omega)
        have a2 : d[j]! ≤ d[m - 1]! := by
          by_cases e : j = m - 1
          · rw [e]; exact Int.le_refl _
          · exact hs j (m - 1) (by omega) (by omega)
        omega
      · rw [List.mem_append, h2, List.mem_singleton]
        constructor
        · rintro (⟨j, hj, rfl⟩ | rfl)
          · exact ⟨j, by omega, rfl⟩
          · exact ⟨m, by omega, rfl⟩
        · rintro ⟨j, hj, rfl⟩
          by_cases e : j = m
          · exact .inr (by rw [e])
          · exact .inl ⟨j, by omega, rfl⟩
    · rw [if_neg hk, List.append_nil]
      have hk2 : ¬ (m = 0 ∨ d[m]! ≠ d[m - 1]!) := fun h => hk (decide_eq_true h)
      have hm0 : m ≠ 0 := fun h => hk2 (.inl h)
      have he : d[m]! = d[m - 1]! := Decidable.byContradiction (fun h => hk2 (.inr h))
      refine ⟨h1, fun x => (h2 x).trans ⟨fun ⟨j, hj, e⟩ => ⟨j, by omega, e⟩, fun ⟨j, hj, e⟩ => ?_⟩⟩
      by_cases e2 : j = m
      · exact ⟨m - 1, by omega, by rw [← he, ← e2]; exact e⟩
      · exact ⟨j, by omega, e⟩
abbrev sortI (l : List Int) : List Int := l.mergeSort (fun x y => decide (x ≤ y))
theorem compact_sort (l : List Int) : Srt (Lib.compact (sortI l)) ∧ ∀ x, x ∈ Lib.compact (sortI l) ↔ x ∈ l := by
  have hp : (sortI l).Pairwise (fun a b => decide (a ≤ b) = true) := List.pairwise_mergeSort (fun a b c h1 h2 => by simp only [decide_eq_true_eq] at *; omega) (fun a b => by simp only [Bool.or_eq_true, decide_eq_true_eq]; omega) l
  have hg : ∀ j, j < (sortI l).length → (sortI l).toArray[j]! = (sortI l).getD j 0 := fun j hj => by
    rw [getElem!_pos (sortI l).toArray j (by simpa using hj)]
    simp [List.getD_eq_getElem?_getD, List.getElem?_eq_getElem hj]
  obtain ⟨h1, h2⟩ := cut_facts (sortI l).toArray (fun i j hij hj => by
    have hj' : j < (sortI l).length := by simpa using hj
    rw [hg i (by omega), hg j hj']
    have := (List.pairwise_iff_getElem.1 hp) i j (by omega) hj' hij
    simpa [List.getD_eq_getElem?_getD, List.getElem?_eq_getElem hj', List.getElem?_eq_getElem (show i < (sortI l).length by omega)] using this) (sortI l).length (by simp)
  refine ⟨h1, fun x => (h2 x).trans ?_⟩
  rw [← List.mem_mergeSort (le := fun x y => decide (x ≤ y)) (l := l)]
  constructor
  · rintro ⟨j, hj, rfl⟩
    rw [hg j hj, List.getD_eq_getElem?_getD, List.getElem?_eq_getElem hj]
    exact List.getElem_mem hj
  · intro hx
    obtain ⟨j, hj, rfl⟩ := List.getElem_of_mem hx
    exact ⟨j, hj, by rw [hg j hj, List.getD_eq_getElem?_getD, List.getElem?_eq_getElem hj]; rfl⟩
/-- The scopes of all names, one behind the other: their set is what the reference comes to. -/
def catAll (s : List Int) (y : Fm) : List Int := s ++ y.f3
mutual
theorem mem_cat : ∀ (x : Fm) (l : List Int) (n : Int), n ∈ foldF catAll x l ↔ n ∈ foldF putAll x l
  | ⟨a, b, c, d, ks⟩, l, n => by
    rw [foldF, foldF, mem_catL ks, mem_allL ks, mem_allL ks (putAll l _)]
    show n ∈ l ++ d ∨ _ ↔ n ∈ d.foldl putS l ∨ _
    rw [mem_putL, List.mem_append]
theorem mem_catL : ∀ (ks : List Fm) (l : List Int) (n : Int), n ∈ foldFs catAll ks l ↔ n ∈ foldFs putAll ks l
  | [], l, n => by rw [foldFs, foldFs]
  | k :: ks, l, n => by
    rw [foldFs, foldFs, mem_catL ks, mem_allL ks, mem_allL ks (foldF putAll k l), mem_cat k]
end
theorem compact_cat (x : Fm) : Lib.compact (sortI (foldF catAll x [])) = foldF putAll x [] :=
  srt_ext (compact_sort _).1 (srt_all x List.Pairwise.nil) (fun n => ((compact_sort _).2 n).trans (mem_cat x [] n))
def laysNm189_ren : Go.Shelf.Ren := ⟨fun | 125 => 144 | 128 => 169 | 129 => 170 | 189 => 93 | 215 => 172 | 216 => 157 | 257 => 143 | 294 => 161 | 295 => 162 | 296 => 163 | 297 => 164 | 298 => 165 | 299 => 166 | 300 => 167 | 301 => 168 | 328 => 174 | 329 => 175 | 330 => 176 | 331 => 177 | 332 => 178 | 343 => 181 | n => n, fun | 0 => 0 | 3 => 3 | 4 => 4 | 5 => 5 | 9 => 9 | 28 => 23 | 46 => 112 | 51 => 128 | 53 => 130 | 131 => 107 | 182 => 121 | 183 => 122 | 218 => 131 | 222 => 84 | 228 => 136 | 229 => 54 | n => n, fun | n => n⟩
theorem laysNm189 : Go.Proofs.Lays.n189 Try.prog laysNm189_ren := {
  mixed := by kernel_rfl
  f125 := Try.func144.trans (congrArg some (by kernel_rfl))
  f128 := Try.func169.trans (congrArg some (by kernel_rfl))
  f129 := Try.func170.trans (congrArg some (by kernel_rfl))
  f189 := Try.func93.trans (congrArg some (by kernel_rfl))
  f215 := Try.func172.trans (congrArg some (by kernel_rfl))
  f216 := Try.func157.trans (congrArg some (by kernel_rfl))
  f257 := Try.func143.trans (congrArg some (by kernel_rfl))
  f294 := Try.func161.trans (congrArg some (by kernel_rfl))
  f295 := Try.func162.trans (congrArg some (by kernel_rfl))
  f296 := Try.func163.trans (congrArg some (by kernel_rfl))
  f297 := Try.func164.trans (congrArg some (by kernel_rfl))
  f298 := Try.func165.trans (congrArg some (by kernel_rfl))
  f299 := Try.func166.trans (congrArg some (by kernel_rfl))
  f300 := Try.func167.trans (congrArg some (by kernel_rfl))
  f301 := Try.func168.trans (congrArg some (by kernel_rfl))
  f328 := Try.func174.trans (congrArg some (by kernel_rfl))
  f329 := Try.func175.trans (congrArg some (by kernel_rfl))
  f330 := Try.func176.trans (congrArg some (by kernel_rfl))
  f331 := Try.func177.trans (congrArg some (by kernel_rfl))
  f332 := Try.func178.trans (congrArg some (by kernel_rfl))
  f343 := Try.func181.trans (congrArg some (by kernel_rfl))
  t0 := Try.underlying0
  a0 := Try.isAgg0
  z0 := Try.sizeOf0
  v0 := Try.zeroValue0
  t3 := Try.underlying3
  a3 := Try.isAgg3
  z3 := Try.sizeOf3
  v3 := Try.zeroValue3
  t4 := Try.underlying4
  a4 := Try.isAgg4
  z4 := Try.sizeOf4
  v4 := Try.zeroValue4
  t5 := Try.underlying5
  a5 := Try.isAgg5
  z5 := Try.sizeOf5
  v5 := Try.zeroValue5
  t9 := Try.underlying9
  a9 := Try.isAgg9
  z9 := Try.sizeOf9
  v9 := Try.zeroValue9
  t28 := Try.underlying23
  a28 := Try.isAgg23
  z28 := Try.sizeOf23
  v28 := Try.zeroValue23
  t46 := Try.underlying112
  a46 := Try.isAgg112
  z46 := Try.sizeOf112
  v46 := Try.zeroValue112
  t51 := Try.underlying128
  a51 := Try.isAgg128
  z51 := Try.sizeOf128
  v51 := Try.zeroValue128
  t53 := Try.underlying130
  a53 := Try.isAgg130
  z53 := Try.sizeOf130
  v53 := Try.zeroValue130
  t131 := Try.underlying107
  a131 := Try.isAgg107
  z131 := Try.sizeOf107
  v131 := Try.zeroValue107
  t182 := Try.underlying121
  a182 := Try.isAgg121
  z182 := Try.sizeOf121
  v182 := Try.zeroValue121
  t183 := Try.underlying122
  a183 := Try.isAgg122
  z183 := Try.sizeOf122
  v183 := Try.zeroValue122
  t218 := Try.underlying131
  a218 := Try.isAgg131
  z218 := Try.sizeOf131
  v218 := Try.zeroValue131
  t222 := Try.underlying84
  a222 := Try.isAgg84
  z222 := Try.sizeOf84
  v222 := Try.zeroValue84
  t228 := Try.underlying136
  a228 := Try.isAgg136
  z228 := Try.sizeOf136
  v228 := Try.zeroValue136
  t229 := Try.underlying54
  a229 := Try.isAgg54
  z229 := Try.sizeOf54
  v229 := Try.zeroValue54 }
def laysNm220_ren : Go.Shelf.Ren := ⟨fun | 20 => 94 | n => n, fun | 0 => 0 | 3 => 3 | 4 => 4 | 22 => 23 | n => n, fun | n => n⟩
theorem laysNm220 : Go.Proofs.Lays2.n20 Try.prog laysNm220_ren := {
  mixed := by kernel_rfl
  f20 := Try.func94.trans (congrArg some (by kernel_rfl))
  t0 := Try.underlying0
  a0 := Try.isAgg0
  z0 := Try.sizeOf0
  v0 := Try.zeroValue0
  t3 := Try.underlying3
  a3 := Try.isAgg3
  z3 := Try.sizeOf3
  v3 := Try.zeroValue3
  t4 := Try.underlying4
  a4 := Try.isAgg4
  z4 := Try.sizeOf4
  v4 := Try.zeroValue4
  t22 := Try.underlying23
  a22 := Try.isAgg23
  z22 := Try.sizeOf23
  v22 := Try.zeroValue23
  i3 := by kernel_rfl }
theorem sortI_any (xs : List Int) (v : Value) (B : Nat) (w : World) (h : w.ownsRow B 3 1 v xs.length (encI xs)) (hlen : xs.length ≤ 10000000) :
    Calls Try.prog 93 #[v] w (fun e w' => e = .returned (.tuple #[]) ∧ w'.ownsRow B 3 1 v (sortI xs).length (encI (sortI xs)) ∧ Mk (obs v) w w') := by
  have hl2 : (sortI xs).length = xs.length := List.length_mergeSort xs
  rcases h with ⟨_, ⟨rfl, h0⟩ | ⟨g, cap, cur, rfl, hg, hh, hnc, hcm, hcs, htake⟩⟩
  · have hxs : xs = [] := List.eq_nil_of_length_eq_zero h0
    subst hxs
    refine (Any.slices_Sort_int_none laysNm189 none 0 w).mono ?_
    rintro e w' ⟨rfl, rfl⟩
    exact ⟨rfl, by simp [World.ownsRow, encs], Mk.refl _ _⟩
  · rw [Nat.mul_one] at htake
    refine (Any.slices_Sort_int laysNm189 g 0 cap xs w (holds_of_blockI hh htake) (blk_lt hh) (by omega)).mono ?_
    rintro e w' ⟨rfl, n, os, rfl⟩
    refine ⟨rfl, ?_, ?_⟩
    · have := ownsRow_sortedI (os := os) (n := n) (ts := sortI xs) hl2 hg hh hnc hcm hcs
      rw [← hl2] at this
      rw [← hl2] 
      exact this
    · have hg := grownBy_sortedI (w := w) (g := g) (n := n) (os := os) (sortI xs).toArray
      exact ⟨⟨hg.os, hg.tape, hg.output, hg.size, fun k hk => absurd hk (Nat.not_lt_zero k)⟩, fun b hb hn => hg.block b hb (fun e => hn (by simpa [obs, Value.ownBlock] using e))⟩
theorem compactI_any (xs : List Int) (v : Value) (B : Nat) (w : World) (h : w.ownsRow B 3 1 v xs.length (encI xs)) (hlen : xs.length ≤ 10000000) :
    Calls Try.prog 94 #[v] w (fun e w' => ∃ v', e = .returned v' ∧ w'.ownsRow B 3 1 v' (Lib.compact xs).length (encI (Lib.compact xs)) ∧ Mk (obs v) w w' ∧ (∀ b, v'.ownBlock = some b → v.ownBlock = some b)) := by
  rcases h with ⟨_, ⟨rfl, h0⟩ | ⟨g, cap, cur, rfl, hg, hh, hnc, hcm, hcs, htake⟩⟩
  · have hxs : xs = [] := List.eq_nil_of_length_eq_zero h0
    subst hxs
    refine (Any.slices_Compact_int_empty laysNm220 none 0 w).mono ?_
    rintro e w' ⟨rfl, rfl⟩
    exact ⟨_, rfl, by simp [World.ownsRow, encs, Lib.compact, Lib.compactUpTo], Mk.refl _ _, fun b hb => hb⟩
  · rw [Nat.mul_one] at htake hcs
    have hle := Lib.compact_length_le xs
    refine (Any.slices_Compact_int laysNm220 g 0 cap xs w (holds_of_blockI hh htake) (by omega) hnc).mono ?_
    rintro e w' ⟨rfl, q, rfl⟩
    generalize hcx : Lib.compact xs = cx at hle ⊢
    have hlt : (cx ++ List.replicate (xs.length - cx.length) (0 : Int)).length = xs.length := by simp; omega
    have hb := heap_sortedI (w := w) (g := g) (n := q) (os := #[]) (cx ++ List.replicate (xs.length - cx.length) (0 : Int)).toArray hh
    have hk := grownBy_sortedI (w := w) (g := g) (n := q) (os := #[]) (cx ++ List.replicate (xs.length - cx.length) (0 : Int)).toArray
    rw [Sort.grow_empty] at hb hk
    have ht := take_putCellsI cur (cx ++ List.replicate (xs.length - cx.length) (0 : Int)) (by rw [hlt]; omega)
    refine ⟨_, rfl, ⟨by simp [encs], .inr ⟨g, cap, _, rfl, hg, hb, by omega, hcm, by simp [Sort.putCells, hcs], ?_⟩⟩, ?_, fun b hb => hb⟩
    · rw [Nat.mul_one]
      have h2 := congrArg (List.take cx.length) ht
      rw [List.take_take, Nat.min_eq_left (by omega), List.map_append] at h2
      rw [h2]
      exact List.take_left' (by simp)
    · exact ⟨⟨hk.os, hk.tape, hk.output, hk.size, fun k hk => absurd hk (Nat.not_lt_zero k)⟩, fun b hb hn => hk.block b hb (fun e => hn (by simpa [obs, Value.ownBlock] using e))⟩
mutual
theorem cost_sc : ∀ x : Fm, costF (fun y => y.f3.length) x ≤ x.tot
  | ⟨a, b, c, d, ks⟩ => by
    rw [costF, Fm.tot_eq]
    have := cost_scL ks
    show d.length + _ ≤ b.size + d.length + totL ks
    omega
theorem cost_scL : ∀ ks : List Fm, costFs (fun y => y.f3.length) ks ≤ totL ks
  | [] => by rw [costFs]; omega
  | k :: ks => by
    rw [costFs]
    have h1 := cost_scL ks
    have h2 := cost_sc k
    simp only [totL]
    omega
end
/-- The variable that the scopes are laid into: its block, and its row. -/
def StI (g0 B : Nat) (W : World) (S : List Nat) (s : List Int) : Prop := ∃ v, W.heap[g0]? = some (.cells #[v] 23 (0, 0)) ∧ W.ownsRow B 3 1 v s.length (encI s) ∧ v.ownBlock ≠ some g0 ∧ S = g0 :: obs v
theorem StI.move {g0 B : Nat} (w w' : World) (S : List Nat) (s : List Int) (h : StI g0 B w S s) (hm : ∀ b, b ∈ S → w'.heap[b]? = w.heap[b]?) : StI g0 B w' S s := by
  obtain ⟨v, h1, h2, h3, rfl⟩ := h
  exact ⟨v, (hm g0 List.mem_cons_self).trans h1, own_move h2 (fun k hk => hm k (List.mem_cons_of_mem _ (obs_mem.2 hk))), h3, rfl⟩
theorem StI.lt {g0 B : Nat} (w : World) (S : List Nat) (s : List Int) (h : StI g0 B w S s) : ∀ b, b ∈ S → b < w.heap.size := by
  obtain ⟨v, h1, h2, h3, rfl⟩ := h
  intro b hb
  rcases List.mem_cons.1 hb with rfl | hb
  · exact blk_lt h1
  · exact own_lt h2 b (obs_mem.1 hb)
set_option maxHeartbeats 1000000 in
theorem scopes1_any (g0 : Nat) (w0 : World) (y : Fm) (A3 : Option Addr) (c3 : Nat) (A4 : Option Addr) (c4 : Nat) (s : List Int) (S : List Nat) (w : World) (hin : FmIn w0 y A3 c3 A4 c4) (hb : Below w0.heap.size w0 w) (hs : StI g0 w0.heap.size w S s) (hS : ∀ b, b ∈ S → w0.heap.size ≤ b) (hN : s.length + y.f3.length ≤ 10000000) :
    Calls Try.prog 92 (#[.agg #[.int .i64 y.f0, .string y.f1, .int .i64 y.f2, .slice A3 y.f3.length c3, .slice A4 y.f4.length c4]] ++ #[.pointer (some ⟨g0, 0, none⟩)]) w (StPost (StI g0 w0.heap.size) S (catAll s y) w) := by
  obtain ⟨v, h1, h2, h3, rfl⟩ := hs
  obtain ⟨D, m, rfl, hDm, _⟩ := own_C (own_less h2 (Nat.zero_le _))
  have hbx := below_new w (.cells #[.int .i64 y.f0, .string y.f1, .int .i64 y.f2, .slice A3 y.f3.length c3, .slice A4 y.f4.length c4] 31)
  have hkb := blk_new w (.cells #[.int .i64 y.f0, .string y.f1, .int .i64 y.f2, .slice A3 y.f3.length c3, .slice A4 y.f4.length c4] 31)
  obtain ⟨p0, p1, p2, p3, p4⟩ := fm_cells hkb
  have q0 : (w.alloc (.cells #[.int .i64 y.f0, .string y.f1, .int .i64 y.f2, .slice A3 y.f3.length c3, .slice A4 y.f4.length c4] 31)).cell? ⟨g0, 0, none⟩ = some (.slice D s.length m) := (blk_cell (blk_below h1 hbx) 0).trans rfl
  have HR := Aside0.mk (Kd.R_of_own (ok := fun _ => True) (h1 := fun _ => rfl) (own_move h2 (fun k hk => hbx.block k (own_lt h2 k hk))) (fun _ _ => trivial))
  have HC := Aside0.mk (Kd.C_below hin.g3 (below_step hb hbx))
  have HB := Lib.hid (below_step hb hbx)
  have H0 := Lib.hid (And.intro h1 (And.intro h3 (And.intro (own_lt h2) hS)))
  have HX := Lib.hid (And.intro hbx hb)
  clear hkb hbx h1 h2 h3 hS hin hb
  go_enter Try.func92, Try.ntmps92
  go_wp2_with (first | ((with_reducible refine gate_dst (N := 6) rfl ?_); refine Kd.R_append_row (Value.int .i64) (0 : Int) (w0 := w0) w0.heap.size rfl (.tmp 3) (.tmp 5) 23 3 (.int .i64 0) 8 rfl Try.underlying23 infoI rfl (by decide) (.slice D s.length m) s y.f3 A3 y.f3.length c3 (fun _ => True) rfl rfl (fun _ _ => trivial) HR.out HC.out HB.out HB.out.size (by omega) ?_; intro v1 w1 ho1 hb1 hg1 hat1; obtain ⟨E5, e5, e6⟩ := Kd.R_slice ho1; subst e6; have q1 : w1.heap[g0]? = some (.cells #[.slice D s.length m] 23 (0, 0)) := blk_grown (blk_below H0.out.1 HX.out.1) hg1 (fun e => H0.out.2.1 e.symm); have q2 : w1.cell? ⟨g0, 0, none⟩ = some (.slice D s.length m) := (blk_cell q1 0).trans rfl; have q3 := blk_frozen q1 0; have HF := Lib.hid (And.intro q1 (And.intro (Kd.own_of_R ho1) (And.intro hg1 hat1))); clear ho1 hb1 hg1 hat1 q1))
  go_end0
  rw [show Value.slice E5 (s ++ y.f3).length e5 = Value.slice E5 (s.length + y.f3.length) e5 from by rw [List.length_append]] at HF
  generalize Value.slice E5 (s.length + y.f3.length) e5 = v1 at HF ⊢
  obtain ⟨q1, ho, hg, hat⟩ := HF.out
  have hne : v1.ownBlock ≠ some g0 := by
    rcases hat with e | ⟨b, e, hb⟩
    · rw [e]; exact H0.out.2.1
    · rw [e]
      intro he
      cases he
      have := blk_lt (blk_below H0.out.1 HX.out.1)
      omega
  refine ⟨rfl, g0 :: obs v1, ⟨v1, by simpa using blk_set q1 0 v1, own_move ho (fun k hk => Below.heap_setCell _ _ _ _ (by show k ≠ g0; rintro rfl; exact hne hk)), hne, rfl⟩, ?_, fun b hb => ?_⟩
  · refine ⟨?_, fun b hb hn => ?_⟩
    · have := hg.size
      exact ⟨hg.os.trans HX.out.1.os, hg.tape.trans HX.out.1.tape, hg.output.trans HX.out.1.output, by simpa using Nat.le_trans HX.out.1.size this, fun k hk => absurd hk (Nat.not_lt_zero k)⟩
    · rw [Below.heap_setCell _ _ _ _ (by show b ≠ g0; rintro rfl; exact hn List.mem_cons_self)]
      rw [hg.block b (Nat.lt_of_lt_of_le hb HX.out.1.size) (fun e => hn (List.mem_cons_of_mem _ (obs_mem.2 e.symm)))]
      exact HX.out.1.block b hb
  · rcases List.mem_cons.1 hb with rfl | hb
    · exact .inl List.mem_cons_self
    · rcases hat with e | ⟨c, e, hc⟩
      · exact .inl (List.mem_cons_of_mem _ (obs_mem.2 (by rw [← e]; exact obs_mem.1 hb)))
      · have hbc := obs_mem.1 hb
        rw [e] at hbc
        cases hbc
        exact .inr (Nat.le_trans HX.out.1.size hc)
set_option maxHeartbeats 1000000 in
theorem implScopes_own (x : Fm) (A3 : Option Addr) (c3 : Nat) (A4 : Option Addr) (c4 : Nat) (w : World) (hin : FmIn w x A3 c3 A4 c4) (ht : x.tot ≤ 1048576) :
    Calls Try.prog 34 #[.agg #[.int .i64 x.f0, .string x.f1, .int .i64 x.f2, .slice A3 x.f3.length c3, .slice A4 x.f4.length c4]] w (RetI w (scAll x)) := by
  obtain ⟨k1, k2, k3, hb0⟩ := three_new (w := w) (O1 := .cells #[.int .i64 x.f0, .string x.f1, .int .i64 x.f2, .slice A3 x.f3.length c3, .slice A4 x.f4.length c4] 31) (O2 := .cells #[] 3) (O3 := .cells #[.slice (some ⟨w.heap.size + 1, 0, none⟩) 0 0] 23) (Below.refl _ _)
  have HV := Lib.hid (implValid_any x A3 c3 A4 c4 _ (hin.below hb0) ht)
  have HI := Lib.hid hin
  have HB := Lib.hid hb0
  have HK := Lib.hid (And.intro k1 (And.intro k2 k3))
  have HT := Lib.hid ht
  clear hin hb0 ht k1 k2 k3
  unfold scAll
  rcases hv : pB (FmOk x) with _ | _
  · rw [hv] at HV
    rw [if_neg (by simp)]
    go_enter Try.func34, Try.ntmps34
    go_wp2_with fail
    refine HV.out.mono ?_
    rintro e w4 ⟨rfl, hb⟩
    have HB4 := Lib.hid (below_step HB.out hb)
    have h0 := (blk_cell (blk_below HK.out.2.2 hb) 0).trans rfl
    have HK2 := Lib.hid (blk_below HK.out.2.1 hb)
    clear hb
    go_wp2_with fail
    go_ret
    exact ⟨_, rfl, R_block HK2.out (by omega) trivial rfl (Nat.le_refl _) (by simp) rfl rfl, HB4.out⟩
  · rw [hv] at HV
    rw [if_pos rfl]
    have HEV := Lib.hid (compact_cat x)
    generalize foldF putAll x [] = fin at HEV ⊢
    go_enter Try.func34, Try.ntmps34
    go_wp2_with fail
    refine HV.out.mono ?_
    rintro e w4 ⟨rfl, hb⟩
    have HB4 := Lib.hid (below_step HB.out hb)
    obtain ⟨p0, p1, p2, p3, p4⟩ := fm_cells (blk_below HK.out.1 hb)
    have K2 := blk_below HK.out.2.1 hb
    have hst : StI (w.heap.size + 1 + 1) w.heap.size w4 [w.heap.size + 1 + 1, w.heap.size + 1] [] := ⟨_, blk_below HK.out.2.2 hb, ⟨by simp [encs], .inr ⟨_, 0, #[], rfl, by omega, K2, Nat.le_refl _, Nat.zero_le _, rfl, by simp [encs]⟩⟩, by simp [Value.ownBlock], by simp [obs, Value.ownBlock]⟩
    have HE := Lib.hid (eachForm_any w 92 #[.pointer (some ⟨w.heap.size + 1 + 1, 0, none⟩)] (StI (w.heap.size + 1 + 1) w.heap.size) catAll List.length (fun y => y.f3.length) 10000000 (enters_of Try.func92 (by kernel_rfl) rfl)
      StI.move StI.lt (fun s y => by simp [catAll]) (fun y B3 d3 B4 d4 s S W hy hbW hsW hSW hNW => scopes1_any _ w y B3 d3 B4 d4 s S W hy hbW hsW hSW hNW) x A3 c3 A4 c4 [] _ w4 HI.out HB4.out hst (by simp; omega) (by have := cost_sc x; have := HT.out; simp; omega))
    clear hst K2 hb
    go_wp2_with fail
    clear p0 p1 p2 p3 p4
    refine HE.out.mono ?_
    rintro e w5 ⟨rfl, S', hst, hM, hS'⟩
    have hlen := foldFs_len (step := catAll) (len := List.length) (cost := fun y => y.f3.length) (fun s y => by simp [catAll]) x []
    have hln : (foldF catAll x []).length ≤ 1048576 := by have := cost_sc x; have := HT.out; simp at hlen; omega
    generalize foldF catAll x [] = cat at hst HEV hlen hln
    obtain ⟨v, hg0, ho, hne, rfl⟩ := hst
    obtain ⟨D, m, rfl, _, _⟩ := own_C (own_less ho (Nat.zero_le _))
    have c0 := (blk_cell hg0 0).trans rfl
    have hlt5 := own_lt ho
    have hge : ∀ b, (Value.slice D cat.length m).ownBlock = some b → w.heap.size ≤ b := fun b hb2 => by
      rcases hS' b (List.mem_cons_of_mem _ (obs_mem.2 hb2)) with h | h
      · simp at h; omega
      · exact Nat.le_trans HB4.out.size h
    have HSO := Lib.hid (sortI_any cat _ w.heap.size w5 ho (by omega))
    have HG := Lib.hid (And.intro hg0 (And.intro hne (And.intro hge hlt5)))
    have HB5 := Lib.hid (HB4.out.trans (hM.below HB4.out.size (by simp; omega)))
    have HLN := Lib.hid hln
    clear hM hS' hg0 ho hne hge hlen hln hlt5
    go_wp2_with fail
    clear c0
    refine HSO.out.mono ?_
    rintro e w6 ⟨rfl, ho, hM⟩
    have hg6 := (hM.keep _ (blk_lt HG.out.1) (fun hm => HG.out.2.1 (obs_mem.1 hm))).trans HG.out.1
    have c0 := (blk_cell hg6 0).trans rfl
    have HCO := Lib.hid (compactI_any (sortI cat) _ w.heap.size w6 ho (by rw [List.length_mergeSort]; have := HLN.out; omega))
    have HB6 := Lib.hid (HB5.out.trans (hM.below HB5.out.size (fun b hb => HG.out.2.2.1 b (obs_mem.1 hb))))
    clear hM hg6 ho
    go_wp2_with fail
    clear c0
    refine HCO.out.mono ?_
    rintro e w7 ⟨v', rfl, ho, hM, hv'⟩
    have HF := Lib.hid (And.intro ho (hM.below HB6.out.size (fun b hb => HG.out.2.2.1 b (obs_mem.1 hb))))
    clear ho hM hv'
    go_wp2_with fail
    go_ret
    refine ⟨v', rfl, ?_, HB6.out.trans HF.out.2⟩
    have := HF.out.1
    rw [HEV.out] at this
    exact Kd.R_of_own this (fun _ _ => trivial)
end Go.Proofs.Yteonncnhhccgeaa
end
section
namespace Go.Proofs.Yteonncnhhccgeaa
open Go.RowKit Go.Proofs.YteonncnhhccgeaaW.PrintWords Go.Proofs.YteonncnhhccgeaaW.PrintLast Go.Proofs.YteonncnhhccgeaaW.PrintMore
set_option linter.unusedVariables false
set_option linter.unusedSimpArgs false
abbrev kS : Kd ByteArray := Kd.string
instance decMemB (n : ByteArray) (xs : List ByteArray) : Decidable (n ∈ xs) := @List.instDecidableMemOfLawfulBEq ByteArray instBEqOfDecidableEq _ n xs
/-- The string at place i. -/
theorem str_at {w : World} {A : Option Addr} {n : Nat} {xs : List ByteArray} (h : kS.C w A n xs) (i : Nat) (h1 : i < xs.length) : ∃ ad, A = some ad ∧ w.cell? (ad.add i) = some (.string xs[i]) := by
  have hn := h.1
  obtain ⟨ad, c, e, _, hK, hc0⟩ := Kd.C_get h ByteArray.empty (i : Int) (by omega) (by omega)
  rw [Int.toNat_natCast] at hK hc0
  rw [show xs.getD i ByteArray.empty = xs[i] from by rw [List.getD_eq_getElem?_getD, List.getElem?_eq_getElem h1]; rfl] at hK
  have hc : ∀ j u, c[j]? = some u → w.cell? (ad.add (i * 1 + j)) = some u := hc0
  have hK2 : c = [.string xs[i]] := hK
  subst hK2
  exact ⟨ad, e, by simpa using hc 0 _ rfl⟩
set_option maxHeartbeats 1000000 in
theorem mxSame_any (xs ys : List Int) (A B : Option Addr) (c d : Nat) (w : World) (hr : kI.C w A xs.length xs) (hc : xs.length ≤ c) (hr2 : kI.C w B ys.length ys) (hc2 : ys.length ≤ d) :
    Calls Try.prog 76 #[.slice A xs.length c, .slice B ys.length d] w (Ret w (.bool (decide (xs = ys)))) := by
  have hmax := hr.2.1
  by_cases hl : xs.length = ys.length
  · have hl1 : ((xs.length : Int) == (ys.length : Int)) = true := by simp [hl]
    have hl2 : ((xs.length : Int) != (ys.length : Int)) = false := by simp [hl]
    have hl3 : (xs.length == ys.length) = true := by simp [hl]
    have hl4 : (xs.length != ys.length) = false := by simp [hl]
    have HL := Lib.hid hl
    clear hl
    go_enter Try.func76, Try.ntmps76
    go_wp2_with fail
    go_loopg [5] xs.length (fun kq v5 w' => ∃ i : Nat, i ≤ xs.length ∧ xs.length - i ≤ kq ∧ v5 = .int .i64 i ∧ Aside0 (∀ j (h : j < xs.length) (h2 : j < ys.length), j < i → xs[j] = ys[j]) ∧ Aside0 (Below w.heap.size w w'))
    case atStart => exact ⟨0, Nat.zero_le _, by omega, rfl, ⟨fun j _ _ h => absurd h (by omega)⟩, ⟨Below.refl _ _⟩⟩
    case round =>
      obtain ⟨i, hi, hg, rfl, HN, HW⟩ := hrel
      by_cases hlt : i < xs.length
      · have hlt2 : i < ys.length := by have := HL.out; omega
        obtain ⟨ad, e, hcell⟩ := int_at (Kd.C_below hr HW.out) i hlt
        subst e
        obtain ⟨ad2, e2, hcell2⟩ := int_at (Kd.C_below hr2 HW.out) i hlt2
        subst e2
        by_cases he : xs[i] = ys[i]
        · have hb1 : (xs[i] == ys[i]) = true := by simpa using he
          have hb2 : (xs[i] != ys[i]) = false := by simpa using he
          have HE := Lib.hid he
          clear he
          go_wp2_with fail
          go_quiet (fail)
          go_wp2_with fail
          go_roundg (xs.length - (i + 1))
          case measure => omega
          case rel =>
            refine ⟨i + 1, by omega, Nat.le_refl _, by go_num, ⟨fun j hj hj2 hji => ?_⟩, ⟨pw_below_drewN HW.out _⟩⟩
            rcases Nat.lt_or_ge j i with h | h
            · exact HN.out j hj hj2 h
            · obtain rfl : j = i := by omega
              exact HE.out
        · have hb1 : (xs[i] == ys[i]) = false := by simpa using he
          have hb2 : (xs[i] != ys[i]) = true := by simpa using he
          have HE := Lib.hid he
          clear he
          go_wp2_with fail
          go_quiet (fail)
          go_wp2_with fail
          go_ret
          refine ⟨ret_b (decide_eq_false (fun h => HE.out ?_)).symm, pw_below_drewN HW.out _⟩
          subst h
          rfl
      · obtain rfl : i = xs.length := by omega
        go_wp2_with fail
        go_ret
        refine ⟨ret_b (decide_eq_true (List.ext_getElem HL.out (fun j hj hj2 => HN.out j hj hj2 hj))).symm, HW.out⟩
  · have hl1 : ((xs.length : Int) == (ys.length : Int)) = false := by simp; omega
    have hl2 : ((xs.length : Int) != (ys.length : Int)) = true := by simp; omega
    have hl3 : (xs.length == ys.length) = false := by simp [hl]
    have hl4 : (xs.length != ys.length) = true := by simp [hl]
    have HL := Lib.hid hl
    clear hl
    go_enter Try.func76, Try.ntmps76
    go_wp2_with fail
    go_ret
    exact ⟨ret_b (decide_eq_false (fun h => HL.out (by rw [h]))).symm, Below.refl _ _⟩
set_option maxHeartbeats 1000000 in
theorem mxTexts_any (xs ys : List ByteArray) (A B : Option Addr) (c d : Nat) (w : World) (hr : kS.C w A xs.length xs) (hc : xs.length ≤ c) (hr2 : kS.C w B ys.length ys) (hc2 : ys.length ≤ d) :
    Calls Try.prog 38 #[.slice A xs.length c, .slice B ys.length d] w (Ret w (.bool (decide (xs = ys)))) := by
  have hmax := hr.2.1
  by_cases hl : xs.length = ys.length
  · have hl1 : ((xs.length : Int) == (ys.length : Int)) = true := by simp [hl]
    have hl2 : ((xs.length : Int) != (ys.length : Int)) = false := by simp [hl]
    have hl3 : (xs.length == ys.length) = true := by simp [hl]
    have hl4 : (xs.length != ys.length) = false := by simp [hl]
    have HL := Lib.hid hl
    clear hl
    go_enter Try.func38, Try.ntmps38
    go_wp2_with fail
    go_loopg [5] xs.length (fun kq v5 w' => ∃ i : Nat, i ≤ xs.length ∧ xs.length - i ≤ kq ∧ v5 = .int .i64 i ∧ Aside0 (∀ j (h : j < xs.length) (h2 : j < ys.length), j < i → xs[j] = ys[j]) ∧ Aside0 (Below w.heap.size w w'))
    case atStart => exact ⟨0, Nat.zero_le _, by omega, rfl, ⟨fun j _ _ h => absurd h (by omega)⟩, ⟨Below.refl _ _⟩⟩
    case round =>
      obtain ⟨i, hi, hg, rfl, HN, HW⟩ := hrel
      by_cases hlt : i < xs.length
      · have hlt2 : i < ys.length := by have := HL.out; omega
        obtain ⟨ad, e, hcell⟩ := str_at (Kd.C_below hr HW.out) i hlt
        subst e
        obtain ⟨ad2, e2, hcell2⟩ := str_at (Kd.C_below hr2 HW.out) i hlt2
        subst e2
        by_cases he : xs[i] = ys[i]
        · have hb1 : (xs[i].toList == ys[i].toList) = true := by rw [he]; simp
          have hb2 : (xs[i].toList != ys[i].toList) = false := by rw [he]; simp
          have HE := Lib.hid he
          clear he
          go_wp2_with fail
          go_quiet (fail)
          go_wp2_with fail
          go_roundg (xs.length - (i + 1))
          case measure => omega
          case rel =>
            refine ⟨i + 1, by omega, Nat.le_refl _, by go_num, ⟨fun j hj hj2 hji => ?_⟩, ⟨pw_below_drewN HW.out _⟩⟩
            rcases Nat.lt_or_ge j i with h | h
            · exact HN.out j hj hj2 h
            · obtain rfl : j = i := by omega
              exact HE.out
        · have hb1 : (xs[i].toList == ys[i].toList) = false := by rw [beq_eq_false_iff_ne]; exact fun h => he (toList_inj h)
          have hb2 : (xs[i].toList != ys[i].toList) = true := by rw [bne_iff_ne]; exact fun h => he (toList_inj h)
          have HE := Lib.hid he
          clear he
          go_wp2_with fail
          go_quiet (fail)
          go_wp2_with fail
          go_ret
          refine ⟨ret_b (decide_eq_false (fun h => HE.out ?_)).symm, pw_below_drewN HW.out _⟩
          subst h
          rfl
      · obtain rfl : i = xs.length := by omega
        go_wp2_with fail
        go_ret
        refine ⟨ret_b (decide_eq_true (List.ext_getElem HL.out (fun j hj hj2 => HN.out j hj hj2 hj))).symm, HW.out⟩
  · have hl1 : ((xs.length : Int) == (ys.length : Int)) = false := by simp; omega
    have hl2 : ((xs.length : Int) != (ys.length : Int)) = true := by simp; omega
    have hl3 : (xs.length == ys.length) = false := by simp [hl]
    have hl4 : (xs.length != ys.length) = true := by simp [hl]
    have HL := Lib.hid hl
    clear hl
    go_enter Try.func38, Try.ntmps38
    go_wp2_with fail
    go_ret
    exact ⟨ret_b (decide_eq_false (fun h => HL.out (by rw [h]))).symm, Below.refl _ _⟩
set_option maxHeartbeats 1000000 in
theorem mxHasText_any (xs : List ByteArray) (n : ByteArray) (A : Option Addr) (c : Nat) (w : World) (hr : kS.C w A xs.length xs) (hc : xs.length ≤ c) :
    Calls Try.prog 41 #[.slice A xs.length c, .string n] w (Ret w (.bool (decide (n ∈ xs)))) := by
  have hmax := hr.2.1
  go_enter Try.func41, Try.ntmps41
  go_wp2_with fail
  go_loopg [5] xs.length (fun kq v5 w' => ∃ i : Nat, i ≤ xs.length ∧ xs.length - i ≤ kq ∧ v5 = .int .i64 i ∧ Aside0 (∀ j (h : j < xs.length), j < i → xs[j] ≠ n) ∧ Aside0 (Below w.heap.size w w'))
  case atStart => exact ⟨0, Nat.zero_le _, by omega, rfl, ⟨fun j _ h => absurd h (by omega)⟩, ⟨Below.refl _ _⟩⟩
  case round =>
    obtain ⟨i, hi, hg, rfl, HN, HW⟩ := hrel
    by_cases hlt : i < xs.length
    · obtain ⟨ad, e, hcell⟩ := str_at (Kd.C_below hr HW.out) i hlt
      subst e
      by_cases he : xs[i] = n
      · have hb : (xs[i].toList == n.toList) = true := by rw [he]; simp
        have hm : n ∈ xs := he ▸ List.getElem_mem hlt
        have HM := Lib.hid hm
        clear he hm
        go_wp2_with fail
        go_ret
        exact ⟨ret_b (decide_eq_true HM.out).symm, HW.out⟩
      · have hb : (xs[i].toList == n.toList) = false := by rw [beq_eq_false_iff_ne]; exact fun h => he (toList_inj h)
        have HE := Lib.hid he
        clear he
        go_wp2_with fail
        go_roundg (xs.length - (i + 1))
        case measure => omega
        case rel =>
          refine ⟨i + 1, by omega, Nat.le_refl _, by go_num, ⟨fun j hj hji => ?_⟩, ⟨HW.out⟩⟩
          rcases Nat.lt_or_ge j i with h | h
          · exact HN.out j hj h
          · obtain rfl : j = i := by omega
            exact HE.out
    · obtain rfl : i = xs.length := by omega
      go_wp2_with fail
      go_ret
      refine ⟨ret_b (decide_eq_false ?_).symm, HW.out⟩
      intro hm
      obtain ⟨j, hj, he⟩ := List.getElem_of_mem hm
      exact HN.out j hj hj he
set_option maxHeartbeats 1000000 in
theorem l1In_any (xs : List ByteArray) (n : ByteArray) (A : Option Addr) (c : Nat) (w : World) (hr : kS.C w A xs.length xs) (hc : xs.length ≤ c) :
    Calls Try.prog 146 #[.slice A xs.length c, .string n] w (Ret w (.bool (decide (n ∈ xs)))) := by
  have hmax := hr.2.1
  go_enter Try.func146, Try.ntmps146
  go_wp2_with fail
  go_loopg [5] xs.length (fun kq v5 w' => ∃ i : Nat, i ≤ xs.length ∧ xs.length - i ≤ kq ∧ v5 = .int .i64 i ∧ Aside0 (∀ j (h : j < xs.length), j < i → xs[j] ≠ n) ∧ Aside0 (Below w.heap.size w w'))
  case atStart => exact ⟨0, Nat.zero_le _, by omega, rfl, ⟨fun j _ h => absurd h (by omega)⟩, ⟨Below.refl _ _⟩⟩
  case round =>
    obtain ⟨i, hi, hg, rfl, HN, HW⟩ := hrel
    by_cases hlt : i < xs.length
    · obtain ⟨ad, e, hcell⟩ := str_at (Kd.C_below hr HW.out) i hlt
      subst e
      by_cases he : xs[i] = n
      · have hb : (xs[i].toList == n.toList) = true := by rw [he]; simp
        have hm : n ∈ xs := he ▸ List.getElem_mem hlt
        have HM := Lib.hid hm
        clear he hm
        go_wp2_with fail
        go_ret
        exact ⟨ret_b (decide_eq_true HM.out).symm, HW.out⟩
      · have hb : (xs[i].toList == n.toList) = false := by rw [beq_eq_false_iff_ne]; exact fun h => he (toList_inj h)
        have HE := Lib.hid he
        clear he
        go_wp2_with fail
        go_roundg (xs.length - (i + 1))
        case measure => omega
        case rel =>
          refine ⟨i + 1, by omega, Nat.le_refl _, by go_num, ⟨fun j hj hji => ?_⟩, ⟨HW.out⟩⟩
          rcases Nat.lt_or_ge j i with h | h
          · exact HN.out j hj h
          · obtain rfl : j = i := by omega
            exact HE.out
    · obtain rfl : i = xs.length := by omega
      go_wp2_with fail
      go_ret
      refine ⟨ret_b (decide_eq_false ?_).symm, HW.out⟩
      intro hm
      obtain ⟨j, hj, he⟩ := List.getElem_of_mem hm
      exact HN.out j hj hj he
set_option maxHeartbeats 1000000 in
theorem indexS_any (xs : List ByteArray) (n : ByteArray) (A : Option Addr) (c : Nat) (w : World) (hr : kS.C w A xs.length xs) (hc : xs.length ≤ c) :
    Calls Try.prog 145 #[.slice A xs.length c, .string n] w (Ret w (.int .i64 (fidx (fun x => n.toList == x.toList) xs))) := by
  have hmax := hr.2.1
  go_enter Try.func145, Try.ntmps145
  go_wp2_with fail
  go_loopg [5, 8] xs.length (fun kq v5 v8 w' => ∃ i : Nat, i ≤ xs.length ∧ xs.length - i ≤ kq ∧ v8 = .int .i64 i ∧ Aside0 (∀ j (h : j < xs.length), j < i → (n.toList == xs[j].toList) = false) ∧ Aside0 (Below w.heap.size w w'))
  case atStart => exact ⟨0, Nat.zero_le _, by omega, rfl, ⟨fun j _ h => absurd h (by omega)⟩, ⟨Below.refl _ _⟩⟩
  case round =>
    obtain ⟨i, hi, hg, rfl, HN, HW⟩ := hrel
    by_cases hlt : i < xs.length
    · obtain ⟨ad, e, hcell⟩ := str_at (Kd.C_below hr HW.out) i hlt
      subst e
      cases hb : (n.toList == xs[i].toList) with
      | true =>
        have HB := Lib.hid (fidx_hit (p := fun x => n.toList == x.toList) hlt hb (fun j hj => HN.out j _ hj))
        go_wp2_with fail
        go_ret
        exact ⟨ret_i HB.out.symm, HW.out⟩
      | false =>
        have HE := Lib.hid hb
        go_wp2_with fail
        go_roundg (xs.length - (i + 1))
        case measure => omega
        case rel =>
          refine ⟨i + 1, by omega, Nat.le_refl _, by go_num, ⟨fun j hj hji => ?_⟩, ⟨HW.out⟩⟩
          rcases Nat.lt_or_ge j i with h | h
          · exact HN.out j hj h
          · obtain rfl : j = i := by omega
            exact HE.out
    · obtain rfl : i = xs.length := by omega
      go_wp2_with fail
      go_ret
      exact ⟨ret_i (fidx_miss (fun j hj => HN.out j hj hj)).symm, HW.out⟩
theorem containsS_any (xs : List ByteArray) (n : ByteArray) (A : Option Addr) (c : Nat) (w : World) (hr : kS.C w A xs.length xs) (hc : xs.length ≤ c) :
    Calls Try.prog 96 #[.slice A xs.length c, .string n] w (Ret w (.bool (decide (n ∈ xs)))) := by
  have hd : decide (0 ≤ fidx (fun x => n.toList == x.toList) xs) = decide (n ∈ xs) := by
    rw [fidx_any, Bool.eq_iff_iff, List.any_eq_true, decide_eq_true_iff]
    constructor
    · rintro ⟨x, hx, he⟩
      rw [toList_inj (eq_of_beq he)]
      exact hx
    · intro h
      exact ⟨n, h, by simp⟩
  have HD := Lib.hid hd
  clear hd
  have HC := Lib.hid (indexS_any xs n A c w hr hc)
  clear hr hc
  generalize fidx (fun x => n.toList == x.toList) xs = r at HD HC
  go_enter Try.func96, Try.ntmps96
  go_wp2_with fail
  refine HC.out.mono ?_
  rintro e w1 ⟨rfl, hb1⟩
  go_wp2_with fail
  go_ret
  exact ⟨ret_b HD.out, hb1⟩
end Go.Proofs.Yteonncnhhccgeaa
end
section
namespace Go.Proofs.Yteonncnhhccgeaa
open Go.RowKit Go.Proofs.YteonncnhhccgeaaW.PrintWords Go.Proofs.YteonncnhhccgeaaW.PrintLast Go.Proofs.YteonncnhhccgeaaW.PrintMore
set_option linter.unusedVariables false
theorem ok_cases (x : Fm) : (FmOk x ∧ pB (FmOk x) = true) ∨ (¬ FmOk x ∧ pB (FmOk x) = false) := by
  by_cases h : FmOk x
  · exact .inl ⟨h, pB_iff.2 h⟩
  · exact .inr ⟨h, (pB_no h).symm⟩
theorem implValid' {x : Fm} {b : Bool} (h : pB (FmOk x) = b) (A3 : Option Addr) (c3 : Nat) (A4 : Option Addr) (c4 : Nat) (w : World) (hin : FmIn w x A3 c3 A4 c4) (ht : x.tot ≤ 1048576) :
    Calls Try.prog 47 #[.agg #[.int .i64 x.f0, .string x.f1, .int .i64 x.f2, .slice A3 x.f3.length c3, .slice A4 x.f4.length c4]] w (Ret w (.bool b)) := h ▸ implValid_any x A3 c3 A4 c4 w hin ht
end Go.Proofs.Yteonncnhhccgeaa
end
section
namespace Go.Proofs.Yteonncnhhccgeaa
open Go.RowKit Go.Proofs.YteonncnhhccgeaaW.PrintWords Go.Proofs.YteonncnhhccgeaaW.PrintLast Go.Proofs.YteonncnhhccgeaaW.PrintMore
set_option linter.unusedVariables false
set_option linter.unusedSimpArgs false
abbrev encS (xs : List ByteArray) : List Value := encs Value.string xs
/-- One form's name is told, if it is a name that is not told yet. -/
def nmStep (s : List ByteArray) (y : Fm) : List ByteArray := if y.f0 = 1 ∧ y.f1 ∉ s then s ++ [y.f1] else s
abbrev namesN (x : Fm) : List ByteArray := foldF nmStep x []
theorem nmStep_len (s : List ByteArray) (y : Fm) : (nmStep s y).length ≤ s.length + 1 := by
  unfold nmStep; split <;> simp
mutual
theorem cost_nm : ∀ x : Fm, costF (fun _ => 1) x = x.size
  | ⟨a, b, c, d, ks⟩ => by rw [costF, Fm.size_eq, cost_nmL ks]
theorem cost_nmL : ∀ ks : List Fm, costFs (fun _ => 1) ks = sizes ks
  | [] => by rw [costFs]; rfl
  | k :: ks => by rw [costFs, cost_nmL ks, cost_nm k]; rfl
end
theorem infoSt : (Try.prog.info? 9).map (fun i => (i.zero, i.size, i.bytes)) = some (some (.string ⟨#[]⟩), 1, 16) := by kernel_rfl
theorem own_CS {w : World} {v : Value} {xs : List ByteArray} {B : Nat} (h : w.ownsRow B 9 1 v xs.length (encS xs)) : ∃ A c, v = .slice A xs.length c ∧ xs.length ≤ c ∧ kS.C w A xs.length xs := by
  obtain ⟨A, c, e, hr⟩ := own_reads_row (R := kS.K w) h (Kd.reps_scalar xs) rfl
  subst e
  exact ⟨A, c, rfl, own_le h, hr⟩
/-- A block with one string reads as_ a row. -/
theorem one_str {W : World} {b : Nat} {n : ByteArray} (hb : W.heap[b]? = some (.cells #[.string n] 9 (0, 0))) : kS.C W (some ⟨b, 0, none⟩) 1 [n] := by
  refine Kd.C_of_reads (d := ByteArray.empty) (h1 := fun _ => rfl) ⟨rfl, by omega, fun hn => ⟨⟨b, 0, none⟩, rfl, fun i hi => ?_⟩⟩
  obtain rfl : i = 0 := by omega
  exact (blk_cell hb 0).trans rfl
theorem own_ge {w : World} {B e sz n : Nat} {v : Value} {xs : List Value} (h : w.ownsRow B e sz v n xs) : ∀ k, v.ownBlock = some k → B ≤ k := by
  intro k hk
  rcases h with ⟨_, ⟨rfl, _⟩ | ⟨g, cap, cur, rfl, hg, _⟩⟩
  · cases hk
  · have : g = k := by simpa [Value.ownBlock] using hk
    omega
/-- The variable that the names are laid into: its block, and its row. -/
def StS (g0 B : Nat) (W : World) (S : List Nat) (s : List ByteArray) : Prop := ∃ v, W.heap[g0]? = some (.cells #[v] 39 (0, 0)) ∧ W.ownsRow B 9 1 v s.length (encS s) ∧ v.ownBlock ≠ some g0 ∧ S = g0 :: obs v
theorem StS.move {g0 B : Nat} (w w' : World) (S : List Nat) (s : List ByteArray) (h : StS g0 B w S s) (hm : ∀ b, b ∈ S → w'.heap[b]? = w.heap[b]?) : StS g0 B w' S s := by
  obtain ⟨v, h1, h2, h3, rfl⟩ := h
  exact ⟨v, (hm g0 List.mem_cons_self).trans h1, own_move h2 (fun k hk => hm k (List.mem_cons_of_mem _ (obs_mem.2 hk))), h3, rfl⟩
theorem StS.lt {g0 B : Nat} (w : World) (S : List Nat) (s : List ByteArray) (h : StS g0 B w S s) : ∀ b, b ∈ S → b < w.heap.size := by
  obtain ⟨v, h1, h2, h3, rfl⟩ := h
  intro b hb
  rcases List.mem_cons.1 hb with rfl | hb
  · exact blk_lt h1
  · exact own_lt h2 b (obs_mem.1 hb)
set_option maxHeartbeats 1000000 in
theorem names1_any (g0 : Nat) (w0 : World) (y : Fm) (A3 : Option Addr) (c3 : Nat) (A4 : Option Addr) (c4 : Nat) (s : List ByteArray) (S : List Nat) (w : World) (hin : FmIn w0 y A3 c3 A4 c4) (hb : Below w0.heap.size w0 w) (hs : StS g0 w0.heap.size w S s) (hS : ∀ b, b ∈ S → w0.heap.size ≤ b) (hN : s.length + 1 ≤ 10000000) :
    Calls Try.prog 95 (#[.agg #[.int .i64 y.f0, .string y.f1, .int .i64 y.f2, .slice A3 y.f3.length c3, .slice A4 y.f4.length c4]] ++ #[.pointer (some ⟨g0, 0, none⟩)]) w (StPost (StS g0 w0.heap.size) S (nmStep s y) w) := by
  obtain ⟨v, h1, h2, h3, rfl⟩ := hs
  obtain ⟨D, m, rfl, hDm, hDC⟩ := own_CS h2
  have hbx := below_new w (.cells #[.int .i64 y.f0, .string y.f1, .int .i64 y.f2, .slice A3 y.f3.length c3, .slice A4 y.f4.length c4] 31)
  have hkb := blk_new w (.cells #[.int .i64 y.f0, .string y.f1, .int .i64 y.f2, .slice A3 y.f3.length c3, .slice A4 y.f4.length c4] 31)
  obtain ⟨p0, p1, p2, p3, p4⟩ := fm_cells hkb
  have q0 : (w.alloc (.cells #[.int .i64 y.f0, .string y.f1, .int .i64 y.f2, .slice A3 y.f3.length c3, .slice A4 y.f4.length c4] 31)).cell? ⟨g0, 0, none⟩ = some (.slice D s.length m) := (blk_cell (blk_below h1 hbx) 0).trans rfl
  by_cases hk : y.f0 = 1
  · have t0 : (y.f0 == 1) = true := beq_iff_eq.mpr hk
    have HC := Lib.hid (containsS_any s y.f1 D m _ (Kd.C_below hDC hbx) hDm)
    by_cases hm : y.f1 ∈ s
    · have hstep : nmStep s y = s := by unfold nmStep; rw [if_neg (fun h => h.2 hm)]
      rw [decide_eq_true hm] at HC
      have H0 := Lib.hid (And.intro h1 (And.intro h2 (And.intro h3 (And.intro hbx hstep))))
      clear hkb h1 h2 h3 hin hb hk hm hstep hDC hS
      go_enter Try.func95, Try.ntmps95
      go_wp2_with fail
      refine HC.out.mono ?_
      rintro e w1 ⟨rfl, hb1⟩
      have HB := Lib.hid (below_step H0.out.2.2.2.1 hb1)
      clear hb1 p0 p1 p2 p3 p4 q0
      go_wp2_with fail
      go_end0
      obtain ⟨h1, h2, h3, hbx, hstep⟩ := H0.out
      rw [hstep]
      exact ⟨rfl, _, StS.move w w1 _ s ⟨_, h1, h2, h3, rfl⟩ (fun b hb => HB.out.block b (StS.lt w _ s ⟨_, h1, h2, h3, rfl⟩ b hb)), Mk.ofBelow HB.out, fun b hb => .inl hb⟩
    · have hstep : nmStep s y = s ++ [y.f1] := by unfold nmStep; rw [if_pos ⟨hk, hm⟩]
      rw [decide_eq_false hm] at HC
      have H0 := Lib.hid (And.intro h1 (And.intro h3 (And.intro (own_lt h2) hS)))
      have HX := Lib.hid (And.intro hbx (And.intro hb (And.intro h2 hstep)))
      have HKB := Lib.hid hkb
      clear hkb h1 h2 h3 hin hb hk hm hstep hDC hS hbx
      go_enter Try.func95, Try.ntmps95
      go_wp2_with fail
      refine HC.out.mono ?_
      rintro e w1 ⟨rfl, hb1⟩
      have hb2 := below_step HX.out.1 hb1
      have hn1 := below_new w1 (.cells #[.string y.f1] 9)
      have hb3 := below_step hb2 hn1
      clear p0 p1 p2 p3 p4 q0
      obtain ⟨p0, p1, p2, p3, p4⟩ := fm_cells (blk_below HKB.out hb1)
      have q0 : w1.cell? ⟨g0, 0, none⟩ = some (.slice D s.length m) := (blk_cell (blk_below H0.out.1 hb2) 0).trans rfl
      have HR := Aside0.mk (Kd.R_of_own (ok := fun _ => True) (h1 := fun _ => rfl) (own_move HX.out.2.2.1 (fun k hk => hb3.block k (H0.out.2.2.1 k hk))) (fun _ _ => trivial))
      have HCN := Aside0.mk (one_str (blk_new w1 (.cells #[.string y.f1] 9)))
      have HB := Lib.hid (below_step HX.out.2.1 hb3)
      have HB3 := Lib.hid hb3
      clear hb1 hb2 hn1 hb3
      go_wp2_with (first | ((with_reducible refine gate_dst (N := 17) rfl ?_); refine Kd.R_append_row Value.string ByteArray.empty (w0 := w0) w0.heap.size rfl (.tmp 13) (.tmp 16) 39 9 (.string ⟨#[]⟩) 16 rfl Try.underlying39 infoSt rfl (by decide) (.slice D s.length m) s [y.f1] (some ⟨w1.heap.size, 0, none⟩) 1 1 (fun _ => True) rfl rfl (fun _ _ => trivial) HR.out HCN.out HB.out HB.out.size (by omega) ?_; intro v1 w2 ho1 hb1 hg1 hat1; obtain ⟨E5, e5, e6⟩ := Kd.R_slice ho1; subst e6; have q1 : w2.heap[g0]? = some (.cells #[.slice D s.length m] 39 (0, 0)) := blk_grown (blk_below H0.out.1 HB3.out) hg1 (fun e => H0.out.2.1 e.symm); have q2 : w2.cell? ⟨g0, 0, none⟩ = some (.slice D s.length m) := (blk_cell q1 0).trans rfl; have q3 := blk_frozen q1 0; have HF := Lib.hid (And.intro q1 (And.intro (Kd.own_of_R ho1) (And.intro hg1 hat1))); clear ho1 hb1 hg1 hat1 q1))
      go_end0
      rw [show Value.slice E5 (s ++ [y.f1]).length e5 = Value.slice E5 (s.length + 1) e5 from by rw [List.length_append]; rfl] at HF
      generalize Value.slice E5 (s.length + 1) e5 = v1 at HF ⊢
      obtain ⟨q1, ho, hg, hat⟩ := HF.out
      have hne : v1.ownBlock ≠ some g0 := by
        rcases hat with e | ⟨b, e, hb⟩
        · rw [e]; exact H0.out.2.1
        · rw [e]
          intro he
          cases he
          have := blk_lt (blk_below H0.out.1 HB3.out)
          omega
      rw [HX.out.2.2.2]
      refine ⟨rfl, g0 :: obs v1, ⟨v1, by simpa using blk_set q1 0 v1, own_move ho (fun k hk => Below.heap_setCell _ _ _ _ (by show k ≠ g0; rintro rfl; exact hne hk)), hne, rfl⟩, ?_, fun b hb => ?_⟩
      · refine ⟨?_, fun b hb hn => ?_⟩
        · have := hg.size
          exact ⟨hg.os.trans HB3.out.os, hg.tape.trans HB3.out.tape, hg.output.trans HB3.out.output, by simpa using Nat.le_trans HB3.out.size this, fun k hk => absurd hk (Nat.not_lt_zero k)⟩
        · rw [Below.heap_setCell _ _ _ _ (by show b ≠ g0; rintro rfl; exact hn List.mem_cons_self)]
          rw [hg.block b (Nat.lt_of_lt_of_le hb HB3.out.size) (fun e => hn (List.mem_cons_of_mem _ (obs_mem.2 e.symm)))]
          exact HB3.out.block b hb
      · rcases List.mem_cons.1 hb with rfl | hb
        · exact .inl List.mem_cons_self
        · rcases hat with e | ⟨c, e, hc⟩
          · exact .inl (List.mem_cons_of_mem _ (obs_mem.2 (by rw [← e]; exact obs_mem.1 hb)))
          · have hbc := obs_mem.1 hb
            rw [e] at hbc
            cases hbc
            exact .inr (Nat.le_trans HB3.out.size hc)
  · have t0 : (y.f0 == 1) = false := beq_eq_false_iff_ne.mpr hk
    have hstep : nmStep s y = s := by unfold nmStep; rw [if_neg (fun h => hk h.1)]
    have H0 := Lib.hid (And.intro h1 (And.intro h2 (And.intro h3 (And.intro hbx hstep))))
    clear hkb h1 h2 h3 hin hb hk hstep hDC hS
    go_enter Try.func95, Try.ntmps95
    go_wp2_with fail
    go_end0
    obtain ⟨h1, h2, h3, hbx, hstep⟩ := H0.out
    rw [hstep]
    exact ⟨rfl, _, StS.move w _ _ s ⟨_, h1, h2, h3, rfl⟩ (fun b hb => hbx.block b (StS.lt w _ s ⟨_, h1, h2, h3, rfl⟩ b hb)), Mk.ofBelow hbx, fun b hb => .inl hb⟩
/-- A row of strings in new memory is handed back. -/
def RetS (w : World) (xs : List ByteArray) (e : Ending) (w' : World) : Prop := ∃ v, e = .returned v ∧ w'.ownsRow w.heap.size 9 1 v xs.length (encS xs) ∧ Below w.heap.size w w'
set_option maxHeartbeats 1000000 in
theorem implNames_own (x : Fm) (A3 : Option Addr) (c3 : Nat) (A4 : Option Addr) (c4 : Nat) (w : World) (hin : FmIn w x A3 c3 A4 c4) (ht : x.size ≤ 10000000) :
    Calls Try.prog 36 #[.agg #[.int .i64 x.f0, .string x.f1, .int .i64 x.f2, .slice A3 x.f3.length c3, .slice A4 x.f4.length c4]] w (RetS w (namesN x)) := by
  obtain ⟨k1, k2, k3, hb0⟩ := three_new (w := w) (O1 := .cells #[.int .i64 x.f0, .string x.f1, .int .i64 x.f2, .slice A3 x.f3.length c3, .slice A4 x.f4.length c4] 31) (O2 := .cells #[] 9) (O3 := .cells #[.slice (some ⟨w.heap.size + 1, 0, none⟩) 0 0] 39) (Below.refl _ _)
  obtain ⟨p0, p1, p2, p3, p4⟩ := fm_cells k1
  have hst : StS (w.heap.size + 1 + 1) w.heap.size (((w.alloc (.cells #[.int .i64 x.f0, .string x.f1, .int .i64 x.f2, .slice A3 x.f3.length c3, .slice A4 x.f4.length c4] 31)).alloc (.cells #[] 9)).alloc (.cells #[.slice (some ⟨w.heap.size + 1, 0, none⟩) 0 0] 39)) [w.heap.size + 1 + 1, w.heap.size + 1] [] := ⟨_, k3, ⟨by simp [encs], .inr ⟨_, 0, #[], rfl, by omega, k2, Nat.le_refl _, Nat.zero_le _, rfl, by simp [encs]⟩⟩, by simp [Value.ownBlock], by simp [obs, Value.ownBlock]⟩
  have HE := Lib.hid (eachForm_any w 95 #[.pointer (some ⟨w.heap.size + 1 + 1, 0, none⟩)] (StS (w.heap.size + 1 + 1) w.heap.size) nmStep List.length (fun _ => 1) 10000000 (enters_of Try.func95 (by kernel_rfl) rfl)
    StS.move StS.lt nmStep_len (fun y B3 d3 B4 d4 s S w1 hy hbW hsW hSW hNW => names1_any _ w y B3 d3 B4 d4 s S w1 hy hbW hsW hSW hNW) x A3 c3 A4 c4 [] _ _ hin hb0 hst (by simp; omega) (by rw [cost_nm]; simp; omega))
  have HB := Lib.hid hb0
  clear hin hb0 ht k1 k2 k3 hst
  go_enter Try.func36, Try.ntmps36
  go_wp2_with fail
  clear p0 p1 p2 p3 p4
  refine HE.out.mono ?_
  rintro e w5 ⟨rfl, S', hst, hM, hS'⟩
  obtain ⟨v, hg0, ho, hne, rfl⟩ := hst
  obtain ⟨D, m, rfl, _, _⟩ := own_CS ho
  have c0 := (blk_cell hg0 0).trans rfl
  have HF := Lib.hid (And.intro ho (HB.out.trans (hM.below HB.out.size (by simp; omega))))
  clear hM hS' hg0 ho hne
  go_wp2_with fail
  go_ret
  exact ⟨_, rfl, HF.out.1, HF.out.2⟩
def NmsOk (x : Fm) : Prop := ∀ (w0 : World) (A3 : Option Addr) (c3 : Nat) (A4 : Option Addr) (c4 : Nat) (v : Value) (s : List ByteArray) (w : World), FmIn w0 x A3 c3 A4 c4 → Below w0.heap.size w0 w → w.ownsRow w0.heap.size 9 1 v s.length (encS s) → s.length + x.size ≤ 10000000 →
  Calls Try.prog 98 #[v, .agg #[.int .i64 x.f0, .string x.f1, .int .i64 x.f2, .slice A3 x.f3.length c3, .slice A4 x.f4.length c4]] w (fun e w' => ∃ v', e = .returned v' ∧ w'.ownsRow w0.heap.size 9 1 v' (foldF nmStep x s).length (encS (foldF nmStep x s)) ∧ Mk (obs v) w w' ∧ ∀ b, b ∈ obs v' → b ∈ obs v ∨ w.heap.size ≤ b)
set_option maxHeartbeats 4000000 in
set_option maxRecDepth 100000 in
theorem l1Names_any (x : Fm) : NmsOk x := by
  induction x using Fm.ind with
  | h x ih =>
    intro w0 A3 c3 A4 c4 v s w hin hb hs hN
    rw [Fm.size_eq] at hN
    have hm4 : x.f4.length ≤ 10000000 := by have := sizes_pos x.f4; omega
    obtain ⟨D, m, rfl, hDm, hDC⟩ := own_CS hs
    have hbx := below_new w (.cells #[.int .i64 x.f0, .string x.f1, .int .i64 x.f2, .slice A3 x.f3.length c3, .slice A4 x.f4.length c4] 31)
    have hkb := blk_new w (.cells #[.int .i64 x.f0, .string x.f1, .int .i64 x.f2, .slice A3 x.f3.length c3, .slice A4 x.f4.length c4] 31)
    obtain ⟨p0, p1, p2, p3, p4⟩ := fm_cells hkb
    have HI := Lib.hid hin
    have IH := Lib.hid ih
    have HN := Lib.hid hN
    have HX := Lib.hid (And.intro hbx (And.intro hb (And.intro hs hkb)))
    by_cases hk : x.f0 = 1
    · have t0 : (x.f0 == 1) = true := beq_iff_eq.mpr hk
      have HC := Lib.hid (l1In_any s x.f1 D m _ (Kd.C_below hDC hbx) hDm)
      by_cases hm : x.f1 ∈ s
      · have hstep : nmStep s x = s := by unfold nmStep; rw [if_neg (fun h => h.2 hm)]
        rw [decide_eq_true hm] at HC
        have HST := Lib.hid hstep
        clear hin ih hN hb hbx hkb hs hDC hk hm hstep
        go_enter Try.func98, Try.ntmps98
        go_wp2_with fail
        refine HC.out.mono ?_
        rintro e w1 ⟨rfl, hb0⟩
        have hb2 := below_step HX.out.1 hb0
        have hbk := blk_below HX.out.2.2.2 hb0
        have hs1 : w1.ownsRow w0.heap.size 9 1 (.slice D s.length m) (nmStep s x).length (encS (nmStep s x)) := by rw [HST.out]; exact own_move HX.out.2.2.1 (fun k hk => hb2.block k (own_lt HX.out.2.2.1 k hk))
        have hM1 : Mk (obs (.slice D s.length m)) w w1 := Mk.ofBelow hb2
        have hb1 : Below w0.heap.size w0 w1 := below_step HX.out.2.1 hb2
        have hobs : ∀ b, b ∈ obs (.slice D s.length m) → b ∈ obs (.slice D s.length m) ∨ w.heap.size + 1 ≤ b := fun b hb => .inl hb
        clear hb0 hb2 p0 p1 p2 p3 p4
        go_wp2_with fail
        have HF := Lib.hid (And.intro hs1 (And.intro hM1 (And.intro hb1 (And.intro hbk hobs))))
        clear hs1 hM1 hb1 hbk hobs
        go_loopg [0, 5] x.f4.length (fun kq v0 v5 w' => ∃ (i : Nat) (u : Value), i ≤ x.f4.length ∧ x.f4.length - i ≤ kq ∧ v5 = .int .i64 i ∧ v0 = u ∧ Aside0 (w'.ownsRow w0.heap.size 9 1 u (foldFs nmStep (x.f4.take i) (nmStep s x)).length (encS (foldFs nmStep (x.f4.take i) (nmStep s x)))) ∧ Aside0 (Mk (obs (.slice D s.length m)) w w' ∧ Below w0.heap.size w0 w' ∧ w'.heap[w.heap.size]? = some (.cells #[.int .i64 x.f0, .string x.f1, .int .i64 x.f2, .slice A3 x.f3.length c3, .slice A4 x.f4.length c4] 31 (0, 0)) ∧ ∀ b, b ∈ obs u → b ∈ obs (.slice D s.length m) ∨ w.heap.size + 1 ≤ b))
        case atStart => exact ⟨0, _, Nat.zero_le _, by omega, rfl, rfl, ⟨by rw [List.take_zero, foldFs]; exact HF.out.1⟩, ⟨HF.out.2⟩⟩
        case round =>
          obtain ⟨i, u, hi, hg, rfl, hu0, HO, HW⟩ := hrel
          have hu1 := hu0.symm
          subst hu1
          clear hu0
          obtain ⟨p0, p1, p2, p3, p4⟩ := fm_cells HW.out.2.2.1
          by_cases hlt : i < x.f4.length
          · obtain ⟨ad, G3, m3, G4, m4, e, g0, g1, g2, g3, g4, hk⟩ := kid_at HI.out.g4 i hlt
            subst e
            replace g0 := ck0 HW.out.2.1 g0
            replace g1 := ck0 HW.out.2.1 g1
            replace g2 := ck0 HW.out.2.1 g2
            replace g3 := ck0 HW.out.2.1 g3
            replace g4 := ck0 HW.out.2.1 g4
            have h1 := foldFs_lenL (step := nmStep) (len := List.length) (cost := fun _ => 1) nmStep_len (x.f4.take i) (nmStep s x)
            have h2 := nmStep_len s x
            have h3 : sizes (x.f4.take i) + x.f4[i].size ≤ sizes x.f4 := by
              have := sizes_take x.f4 i hlt
              have := sizes_take_le x.f4 (i + 1)
              omega
            rw [cost_nmL] at h1
            have HP := Lib.hid (IH.out x.f4[i] (List.getElem_mem hlt) w0 G3 m3 G4 m4 u _ wr hk HW.out.2.1 HO.out (by have := HN.out; omega))
            have HTK := Lib.hid (show foldFs nmStep (x.f4.take (i + 1)) (nmStep s x) = foldF nmStep x.f4[i] (foldFs nmStep (x.f4.take i) (nmStep s x)) by rw [List.take_succ_eq_append_getElem hlt, foldFs_append, foldFs, foldFs])
            clear h1 h2 h3 hk
            go_wp2_with fail
            clear p0 p1 p2 p3 p4 g0 g1 g2 g3 g4
            refine HP.out.mono ?_
            rintro e w1 ⟨u1, rfl, ho, hM, hobs⟩
            have hge := own_ge HO.out
            have hu : ∀ b, b ∈ obs u → b ∈ obs (.slice D s.length m) ∨ w.heap.size + 1 ≤ b := HW.out.2.2.2
            have hbw := HW.out.1.b0.size
            have hkb := blk_lt HW.out.2.2.1
            have hvl := own_lt HX.out.2.2.1
            have hbx : w.heap.size ∉ obs u := fun hm => by
              rcases hu _ hm with h | h
              · have := hvl _ (obs_mem.1 h); omega
              · omega
            have HQ := Lib.hid (show w1.ownsRow w0.heap.size 9 1 u1 (foldFs nmStep (x.f4.take (i + 1)) (nmStep s x)).length (encS (foldFs nmStep (x.f4.take (i + 1)) (nmStep s x))) ∧ Mk (obs (.slice D s.length m)) w w1 ∧ Below w0.heap.size w0 w1 ∧ w1.heap[w.heap.size]? = some (.cells #[.int .i64 x.f0, .string x.f1, .int .i64 x.f2, .slice A3 x.f3.length c3, .slice (some ad) x.f4.length c4] 31 (0, 0)) ∧ ∀ b, b ∈ obs u1 → b ∈ obs (.slice D s.length m) ∨ w.heap.size + 1 ≤ b from by
              refine ⟨by rw [HTK.out]; exact ho, ⟨HW.out.1.b0.trans hM.b0, fun b hb hn => ?_⟩, HW.out.2.1.trans (hM.below HW.out.2.1.size (fun b hb => hge b (obs_mem.1 hb))), (hM.keep _ hkb hbx).trans HW.out.2.2.1, fun b hb => ?_⟩
              · rw [hM.keep b (by omega) (fun hm => by
                  rcases hu b hm with h | h
                  · exact hn h
                  · omega)]
                exact HW.out.1.keep b hb hn
              · rcases hobs b hb with h | h
                · exact hu b h
                · exact .inr (by omega))
            clear ho hM hobs hge hu hbw hkb hvl hbx
            go_wp2_with fail
            go_roundg (x.f4.length - (i + 1))
            case measure => omega
            case rel => exact ⟨i + 1, u1, by omega, Nat.le_refl _, by go_num, rfl, ⟨HQ.out.1⟩, ⟨HQ.out.2⟩⟩
          · obtain rfl : i = x.f4.length := by omega
            rw [List.take_length] at HO
            go_wp2_with fail
            go_ret
            refine ⟨u, rfl, by rw [foldF_eq]; exact HO.out, HW.out.1, fun b hb => (HW.out.2.2.2 b hb).imp id (fun h => by omega)⟩
      · have hstep : nmStep s x = s ++ [x.f1] := by unfold nmStep; rw [if_pos ⟨hk, hm⟩]
        rw [decide_eq_false hm] at HC
        have HST := Lib.hid hstep
        clear hin ih hN hb hbx hkb hs hDC hk hm hstep
        go_enter Try.func98, Try.ntmps98
        go_wp2_with fail
        refine HC.out.mono ?_
        rintro e w1 ⟨rfl, hb0⟩
        have hb2 := below_step HX.out.1 hb0
        have hn1 := below_new w1 (.cells #[.string x.f1] 9)
        have hb3 := below_step hb2 hn1
        clear p0 p1 p2 p3 p4
        obtain ⟨p0, p1, p2, p3, p4⟩ := fm_cells (blk_below HX.out.2.2.2 hb0)
        have HR := Aside0.mk (Kd.R_of_own (ok := fun _ => True) (h1 := fun _ => rfl) (own_move HX.out.2.2.1 (fun k hk => hb3.block k (own_lt HX.out.2.2.1 k hk))) (fun _ _ => trivial))
        have HCN := Aside0.mk (one_str (blk_new w1 (.cells #[.string x.f1] 9)))
        have HB := Lib.hid (below_step HX.out.2.1 hb3)
        have HB3 := Lib.hid (And.intro hb3 (And.intro (blk_below HX.out.2.2.2 (below_step hb0 hn1)) hb2.size))
        clear hb0 hb2 hn1 hb3
        go_wp2_with (first | ((with_reducible refine gate_dst (N := 20) rfl ?_); refine Kd.R_append_row Value.string ByteArray.empty (w0 := w0) w0.heap.size rfl (.tmp 16) (.tmp 19) 39 9 (.string ⟨#[]⟩) 16 rfl Try.underlying39 infoSt rfl (by decide) (.slice D s.length m) s [x.f1] (some ⟨w1.heap.size, 0, none⟩) 1 1 (fun _ => True) rfl rfl (fun _ _ => trivial) HR.out HCN.out HB.out HB.out.size (by have := HN.out; omega) ?_; intro v1 w2 ho1 hb1 hg1 hat1; obtain ⟨E5, e5, e6⟩ := Kd.R_slice ho1; subst e6; have HG := Lib.hid (And.intro (Kd.own_of_R ho1) (And.intro hg1 (And.intro hat1 hb1))); clear ho1 hb1 hg1 hat1))
        rw [show Value.slice E5 (s ++ [x.f1]).length e5 = Value.slice E5 (s.length + 1) e5 from by rw [List.length_append]; rfl] at HG
        clear p0 p1 p2 p3 p4
        have hg := HG.out.2.1
        have hsz := hg.size
        have hs1 : w2.ownsRow w0.heap.size 9 1 (.slice E5 (s.length + 1) e5) (nmStep s x).length (encS (nmStep s x)) := by rw [HST.out]; exact HG.out.1
        have hvl := own_lt HX.out.2.2.1
        have hbk : w2.heap[w.heap.size]? = some (.cells #[.int .i64 x.f0, .string x.f1, .int .i64 x.f2, .slice A3 x.f3.length c3, .slice A4 x.f4.length c4] 31 (0, 0)) := blk_grown HB3.out.2.1 hg (fun e => by have := hvl _ e.symm; omega)
        have hM1 : Mk (obs (.slice D s.length m)) w w2 := by
          refine ⟨⟨hg.os.trans HB3.out.1.os, hg.tape.trans HB3.out.1.tape, hg.output.trans HB3.out.1.output, by simpa using Nat.le_trans HB3.out.1.size hsz, fun k hk => absurd hk (Nat.not_lt_zero k)⟩, fun b hb hn => ?_⟩
          rw [hg.block b (Nat.lt_of_lt_of_le hb HB3.out.1.size) (fun e => hn (obs_mem.2 e.symm))]
          exact HB3.out.1.block b hb
        have hb1 : Below w0.heap.size w0 w2 := HG.out.2.2.2
        have hobs : ∀ b, b ∈ obs (.slice E5 (s.length + 1) e5) → b ∈ obs (.slice D s.length m) ∨ w.heap.size + 1 ≤ b := fun b hb => by
          rcases HG.out.2.2.1 with e | ⟨c, e, hc⟩
          · exact .inl (obs_mem.2 (by rw [← e]; exact obs_mem.1 hb))
          · have hbc := obs_mem.1 hb
            rw [e] at hbc
            cases hbc
            have := HB3.out.2.2
            have := blk_lt HX.out.2.2.2
            refine .inr ?_
            simp at hc this
            have := HB3.out.1.size
            simp at this
            omega
        clear hg hsz hvl
        have HF := Lib.hid (And.intro hs1 (And.intro hM1 (And.intro hb1 (And.intro hbk hobs))))
        clear hs1 hM1 hb1 hbk hobs
        go_loopg [0, 5] x.f4.length (fun kq v0 v5 w' => ∃ (i : Nat) (u : Value), i ≤ x.f4.length ∧ x.f4.length - i ≤ kq ∧ v5 = .int .i64 i ∧ v0 = u ∧ Aside0 (w'.ownsRow w0.heap.size 9 1 u (foldFs nmStep (x.f4.take i) (nmStep s x)).length (encS (foldFs nmStep (x.f4.take i) (nmStep s x)))) ∧ Aside0 (Mk (obs (.slice D s.length m)) w w' ∧ Below w0.heap.size w0 w' ∧ w'.heap[w.heap.size]? = some (.cells #[.int .i64 x.f0, .string x.f1, .int .i64 x.f2, .slice A3 x.f3.length c3, .slice A4 x.f4.length c4] 31 (0, 0)) ∧ ∀ b, b ∈ obs u → b ∈ obs (.slice D s.length m) ∨ w.heap.size + 1 ≤ b))
        case atStart => exact ⟨0, _, Nat.zero_le _, by omega, rfl, rfl, ⟨by rw [List.take_zero, foldFs]; exact HF.out.1⟩, ⟨HF.out.2⟩⟩
        case round =>
          obtain ⟨i, u, hi, hg, rfl, hu0, HO, HW⟩ := hrel
          have hu1 := hu0.symm
          subst hu1
          clear hu0
          obtain ⟨p0, p1, p2, p3, p4⟩ := fm_cells HW.out.2.2.1
          by_cases hlt : i < x.f4.length
          · obtain ⟨ad, G3, m3, G4, m4, e, g0, g1, g2, g3, g4, hk⟩ := kid_at HI.out.g4 i hlt
            subst e
            replace g0 := ck0 HW.out.2.1 g0
            replace g1 := ck0 HW.out.2.1 g1
            replace g2 := ck0 HW.out.2.1 g2
            replace g3 := ck0 HW.out.2.1 g3
            replace g4 := ck0 HW.out.2.1 g4
            have h1 := foldFs_lenL (step := nmStep) (len := List.length) (cost := fun _ => 1) nmStep_len (x.f4.take i) (nmStep s x)
            have h2 := nmStep_len s x
            have h3 : sizes (x.f4.take i) + x.f4[i].size ≤ sizes x.f4 := by
              have := sizes_take x.f4 i hlt
              have := sizes_take_le x.f4 (i + 1)
              omega
            rw [cost_nmL] at h1
            have HP := Lib.hid (IH.out x.f4[i] (List.getElem_mem hlt) w0 G3 m3 G4 m4 u _ wr hk HW.out.2.1 HO.out (by have := HN.out; omega))
            have HTK := Lib.hid (show foldFs nmStep (x.f4.take (i + 1)) (nmStep s x) = foldF nmStep x.f4[i] (foldFs nmStep (x.f4.take i) (nmStep s x)) by rw [List.take_succ_eq_append_getElem hlt, foldFs_append, foldFs, foldFs])
            clear h1 h2 h3 hk
            go_wp2_with fail
            clear p0 p1 p2 p3 p4 g0 g1 g2 g3 g4
            refine HP.out.mono ?_
            rintro e w1 ⟨u1, rfl, ho, hM, hobs⟩
            have hge := own_ge HO.out
            have hu : ∀ b, b ∈ obs u → b ∈ obs (.slice D s.length m) ∨ w.heap.size + 1 ≤ b := HW.out.2.2.2
            have hbw := HW.out.1.b0.size
            have hkb := blk_lt HW.out.2.2.1
            have hvl := own_lt HX.out.2.2.1
            have hbx : w.heap.size ∉ obs u := fun hm => by
              rcases hu _ hm with h | h
              · have := hvl _ (obs_mem.1 h); omega
              · omega
            have HQ := Lib.hid (show w1.ownsRow w0.heap.size 9 1 u1 (foldFs nmStep (x.f4.take (i + 1)) (nmStep s x)).length (encS (foldFs nmStep (x.f4.take (i + 1)) (nmStep s x))) ∧ Mk (obs (.slice D s.length m)) w w1 ∧ Below w0.heap.size w0 w1 ∧ w1.heap[w.heap.size]? = some (.cells #[.int .i64 x.f0, .string x.f1, .int .i64 x.f2, .slice A3 x.f3.length c3, .slice (some ad) x.f4.length c4] 31 (0, 0)) ∧ ∀ b, b ∈ obs u1 → b ∈ obs (.slice D s.length m) ∨ w.heap.size + 1 ≤ b from by
              refine ⟨by rw [HTK.out]; exact ho, ⟨HW.out.1.b0.trans hM.b0, fun b hb hn => ?_⟩, HW.out.2.1.trans (hM.below HW.out.2.1.size (fun b hb => hge b (obs_mem.1 hb))), (hM.keep _ hkb hbx).trans HW.out.2.2.1, fun b hb => ?_⟩
              · rw [hM.keep b (by omega) (fun hm => by
                  rcases hu b hm with h | h
                  · exact hn h
                  · omega)]
                exact HW.out.1.keep b hb hn
              · rcases hobs b hb with h | h
                · exact hu b h
                · exact .inr (by omega))
            clear ho hM hobs hge hu hbw hkb hvl hbx
            go_wp2_with fail
            go_roundg (x.f4.length - (i + 1))
            case measure => omega
            case rel => exact ⟨i + 1, u1, by omega, Nat.le_refl _, by go_num, rfl, ⟨HQ.out.1⟩, ⟨HQ.out.2⟩⟩
          · obtain rfl : i = x.f4.length := by omega
            rw [List.take_length] at HO
            go_wp2_with fail
            go_ret
            refine ⟨u, rfl, by rw [foldF_eq]; exact HO.out, HW.out.1, fun b hb => (HW.out.2.2.2 b hb).imp id (fun h => by omega)⟩
    · have t0 : (x.f0 == 1) = false := beq_eq_false_iff_ne.mpr hk
      have hstep : nmStep s x = s := by unfold nmStep; rw [if_neg (fun h => hk h.1)]
      have HST := Lib.hid hstep
      clear hin ih hN hb hbx hkb hs hDC hk hstep
      go_enter Try.func98, Try.ntmps98
      go_wp2_with fail
      have hbk := HX.out.2.2.2
      have hs1 : (w.alloc (.cells #[.int .i64 x.f0, .string x.f1, .int .i64 x.f2, .slice A3 x.f3.length c3, .slice A4 x.f4.length c4] 31)).ownsRow w0.heap.size 9 1 (.slice D s.length m) (nmStep s x).length (encS (nmStep s x)) := by rw [HST.out]; exact own_move HX.out.2.2.1 (fun k hk => HX.out.1.block k (own_lt HX.out.2.2.1 k hk))
      have hM1 : Mk (obs (.slice D s.length m)) w (w.alloc (.cells #[.int .i64 x.f0, .string x.f1, .int .i64 x.f2, .slice A3 x.f3.length c3, .slice A4 x.f4.length c4] 31)) := Mk.ofBelow HX.out.1
      have hb1 : Below w0.heap.size w0 (w.alloc (.cells #[.int .i64 x.f0, .string x.f1, .int .i64 x.f2, .slice A3 x.f3.length c3, .slice A4 x.f4.length c4] 31)) := below_step HX.out.2.1 HX.out.1
      have hobs : ∀ b, b ∈ obs (.slice D s.length m) → b ∈ obs (.slice D s.length m) ∨ w.heap.size + 1 ≤ b := fun b hb => .inl hb
      clear p0 p1 p2 p3 p4
      have HF := Lib.hid (And.intro hs1 (And.intro hM1 (And.intro hb1 (And.intro hbk hobs))))
      clear hs1 hM1 hb1 hbk hobs
      go_loopg [0, 5] x.f4.length (fun kq v0 v5 w' => ∃ (i : Nat) (u : Value), i ≤ x.f4.length ∧ x.f4.length - i ≤ kq ∧ v5 = .int .i64 i ∧ v0 = u ∧ Aside0 (w'.ownsRow w0.heap.size 9 1 u (foldFs nmStep (x.f4.take i) (nmStep s x)).length (encS (foldFs nmStep (x.f4.take i) (nmStep s x)))) ∧ Aside0 (Mk (obs (.slice D s.length m)) w w' ∧ Below w0.heap.size w0 w' ∧ w'.heap[w.heap.size]? = some (.cells #[.int .i64 x.f0, .string x.f1, .int .i64 x.f2, .slice A3 x.f3.length c3, .slice A4 x.f4.length c4] 31 (0, 0)) ∧ ∀ b, b ∈ obs u → b ∈ obs (.slice D s.length m) ∨ w.heap.size + 1 ≤ b))
      case atStart => exact ⟨0, _, Nat.zero_le _, by omega, rfl, rfl, ⟨by rw [List.take_zero, foldFs]; exact HF.out.1⟩, ⟨HF.out.2⟩⟩
      case round =>
        obtain ⟨i, u, hi, hg, rfl, hu0, HO, HW⟩ := hrel
        have hu1 := hu0.symm
        subst hu1
        clear hu0
        obtain ⟨p0, p1, p2, p3, p4⟩ := fm_cells HW.out.2.2.1
        by_cases hlt : i < x.f4.length
        · obtain ⟨ad, G3, m3, G4, m4, e, g0, g1, g2, g3, g4, hk⟩ := kid_at HI.out.g4 i hlt
          subst e
          replace g0 := ck0 HW.out.2.1 g0
          replace g1 := ck0 HW.out.2.1 g1
          replace g2 := ck0 HW.out.2.1 g2
          replace g3 := ck0 HW.out.2.1 g3
          replace g4 := ck0 HW.out.2.1 g4
          have h1 := foldFs_lenL (step := nmStep) (len := List.length) (cost := fun _ => 1) nmStep_len (x.f4.take i) (nmStep s x)
          have h2 := nmStep_len s x
          have h3 : sizes (x.f4.take i) + x.f4[i].size ≤ sizes x.f4 := by
            have := sizes_take x.f4 i hlt
            have := sizes_take_le x.f4 (i + 1)
            omega
          rw [cost_nmL] at h1
          have HP := Lib.hid (IH.out x.f4[i] (List.getElem_mem hlt) w0 G3 m3 G4 m4 u _ wr hk HW.out.2.1 HO.out (by have := HN.out; omega))
          have HTK := Lib.hid (show foldFs nmStep (x.f4.take (i + 1)) (nmStep s x) = foldF nmStep x.f4[i] (foldFs nmStep (x.f4.take i) (nmStep s x)) by rw [List.take_succ_eq_append_getElem hlt, foldFs_append, foldFs, foldFs])
          clear h1 h2 h3 hk
          go_wp2_with fail
          clear p0 p1 p2 p3 p4 g0 g1 g2 g3 g4
          refine HP.out.mono ?_
          rintro e w1 ⟨u1, rfl, ho, hM, hobs⟩
          have hge := own_ge HO.out
          have hu : ∀ b, b ∈ obs u → b ∈ obs (.slice D s.length m) ∨ w.heap.size + 1 ≤ b := HW.out.2.2.2
          have hbw := HW.out.1.b0.size
          have hkb := blk_lt HW.out.2.2.1
          have hvl := own_lt HX.out.2.2.1
          have hbx : w.heap.size ∉ obs u := fun hm => by
            rcases hu _ hm with h | h
            · have := hvl _ (obs_mem.1 h); omega
            · omega
          have HQ := Lib.hid (show w1.ownsRow w0.heap.size 9 1 u1 (foldFs nmStep (x.f4.take (i + 1)) (nmStep s x)).length (encS (foldFs nmStep (x.f4.take (i + 1)) (nmStep s x))) ∧ Mk (obs (.slice D s.length m)) w w1 ∧ Below w0.heap.size w0 w1 ∧ w1.heap[w.heap.size]? = some (.cells #[.int .i64 x.f0, .string x.f1, .int .i64 x.f2, .slice A3 x.f3.length c3, .slice (some ad) x.f4.length c4] 31 (0, 0)) ∧ ∀ b, b ∈ obs u1 → b ∈ obs (.slice D s.length m) ∨ w.heap.size + 1 ≤ b from by
            refine ⟨by rw [HTK.out]; exact ho, ⟨HW.out.1.b0.trans hM.b0, fun b hb hn => ?_⟩, HW.out.2.1.trans (hM.below HW.out.2.1.size (fun b hb => hge b (obs_mem.1 hb))), (hM.keep _ hkb hbx).trans HW.out.2.2.1, fun b hb => ?_⟩
            · rw [hM.keep b (by omega) (fun hm => by
                rcases hu b hm with h | h
                · exact hn h
                · omega)]
              exact HW.out.1.keep b hb hn
            · rcases hobs b hb with h | h
              · exact hu b h
              · exact .inr (by omega))
          clear ho hM hobs hge hu hbw hkb hvl hbx
          go_wp2_with fail
          go_roundg (x.f4.length - (i + 1))
          case measure => omega
          case rel => exact ⟨i + 1, u1, by omega, Nat.le_refl _, by go_num, rfl, ⟨HQ.out.1⟩, ⟨HQ.out.2⟩⟩
        · obtain rfl : i = x.f4.length := by omega
          rw [List.take_length] at HO
          go_wp2_with fail
          go_ret
          refine ⟨u, rfl, by rw [foldF_eq]; exact HO.out, HW.out.1, fun b hb => (HW.out.2.2.2 b hb).imp id (fun h => by omega)⟩
set_option maxHeartbeats 1000000 in
theorem specNames_own (x : Fm) (A3 : Option Addr) (c3 : Nat) (A4 : Option Addr) (c4 : Nat) (w : World) (hin : FmIn w x A3 c3 A4 c4) (ht : x.size ≤ 10000000) :
    Calls Try.prog 39 #[.agg #[.int .i64 x.f0, .string x.f1, .int .i64 x.f2, .slice A3 x.f3.length c3, .slice A4 x.f4.length c4]] w (RetS w (namesN x)) := by
  obtain ⟨k1, k2, hb0⟩ := two_new (w := w) (O1 := .cells #[.int .i64 x.f0, .string x.f1, .int .i64 x.f2, .slice A3 x.f3.length c3, .slice A4 x.f4.length c4] 31) (O2 := .cells #[] 9) (Below.refl _ _)
  obtain ⟨p0, p1, p2, p3, p4⟩ := fm_cells k1
  have HP := Lib.hid (l1Names_any x w A3 c3 A4 c4 (.slice (some ⟨w.heap.size + 1, 0, none⟩) 0 0) [] _ hin hb0 ⟨by simp [encs], .inr ⟨_, 0, #[], rfl, by omega, k2, Nat.le_refl _, Nat.zero_le _, rfl, by simp [encs]⟩⟩ (by simp; omega))
  have HB := Lib.hid hb0
  clear hin hb0 ht k1 k2
  go_enter Try.func39, Try.ntmps39
  go_wp2_with fail
  clear p0 p1 p2 p3 p4
  refine HP.out.mono ?_
  rintro e w5 ⟨u, rfl, ho, hM, _⟩
  have HF := Lib.hid (And.intro ho (HB.out.trans (hM.below HB.out.size (fun b hb => by simp [obs, Value.ownBlock] at hb; omega))))
  clear hM ho
  go_wp2_with fail
  go_ret
  exact ⟨_, rfl, HF.out.1, HF.out.2⟩
end Go.Proofs.Yteonncnhhccgeaa
end
section
namespace Go.Proofs.Yteonncnhhccgeaa
open Go.RowKit Go.Proofs.YteonncnhhccgeaaW.PrintWords Go.Proofs.YteonncnhhccgeaaW.PrintLast Go.Proofs.YteonncnhhccgeaaW.PrintMore
set_option linter.unusedVariables false
set_option linter.unusedSimpArgs false
/-- A form in new memory is handed back. -/
def GetSF (w : World) (x : Fm) (e : Ending) (w' : World) : Prop := ∃ A3 c3 A4 c4, e = .returned (.agg #[.int .i64 x.f0, .string x.f1, .int .i64 x.f2, .slice A3 x.f3.length c3, .slice A4 x.f4.length c4]) ∧ FmS w.heap.size w' x A3 c3 A4 c4 ∧ Below w.heap.size w w'
theorem GetSF.F {w : World} {x : Fm} {e : Ending} {w' : World} (h : GetSF w x e w') : GetF w x e w' := by
  obtain ⟨A3, c3, A4, c4, he, hs, hb⟩ := h
  exact ⟨A3, c3, A4, c4, he, hs.now, hb⟩
set_option maxHeartbeats 4000000 in
set_option maxRecDepth 100000 in
theorem drawValidS (l : List Int) (hl : ∀ z, z ∈ l → 0 ≤ z ∧ z < 256) : ∃ (x : Fm), x.tot ≤ 7000 ∧ ∀ (A : Option Addr) (c : Nat) (w : World), (Kd.int .u8).C w A l.length l → l.length ≤ c → Calls Try.prog 97 #[.slice A l.length c] w (GetSF w x) := by
  obtain ⟨s, hs, hopen⟩ := open_at l hl
  obtain ⟨n0, hn0, e1⟩ := ev_num hs 0 (by omega) [3, 2, 4] (by simp) (by simp)
  obtain ⟨d, rfl, hd⟩ : ∃ d : Nat, n0 = (d : Int) ∧ d ≤ 4 := by
    simp only [List.mem_cons, List.not_mem_nil, or_false] at hn0
    rcases hn0 with rfl | rfl | rfl
    · exact ⟨3, rfl, by omega⟩
    · exact ⟨2, rfl, by omega⟩
    · exact ⟨4, rfl, by omega⟩
  have hB := Bn_le hd
  obtain ⟨x1, q1, a1, b1, c1⟩ := some_ex hs d hd 1 (by omega)
  have s1 := sizes_totL x1
  obtain ⟨x2, q2, a2, b2, f2, _, c2⟩ := dress_ex hs x1 (by omega) q1 (by omega)
  obtain ⟨x3, q3, a3, b3, f3, c3⟩ := mutate_ex hs x2 (by omega) q2 (by omega)
  obtain ⟨x4, q4, a4, b4, f4, c4⟩ := mutate_ex hs x3 (by omega) q3 (by omega)
  refine ⟨x4, by omega, fun A c w hr hc => ?_⟩
  have HO := Lib.hid hopen
  have HE1 := Lib.hid e1
  have HS1 := Lib.hid c1
  have HS2 := Lib.hid c2
  have HS3 := Lib.hid c3
  have HS4 := Lib.hid c4
  clear hopen e1 c1 c2 c3 c4 hs hn0 a1 a2 a3 a4 b1 b2 b3 b4 f2 f3 f4 s1 hB
  go_enter Try.func97, Try.ntmps97
  go_wp2_with fail
  refine (HO.out A c w _ (below_new _ _) hr hc).mono ?_
  rintro e w2 ⟨g, rfl, hi, hb, hb2⟩
  obtain ⟨kr, hbw⟩ := one_new hb2
  have HD := Lib.hid (Dr.new hi hb)
  have HG := Lib.hid (show g ≠ w.heap.size from Q.IsS104.ne_blk hi kr (by decide))
  have HKR := Lib.hid kr
  have HW2 := Lib.hid (show w.heap.size < w2.heap.size from blk_lt kr)
  clear hi hb hb2 kr hbw
  go_wp2_with fail
  refine (num_lit (l := [3, 2, 4]) rfl (by simp) HE1.out g w w2 HD.out.is HD.out.b).mono ?_
  rintro e w3 ⟨rfl, hi, hb, hk⟩
  replace HD := Lib.hid (HD.out.call hi hb hk)
  clear hi hb hk
  go_wp2_with fail
  refine (HS1.out g w w3 HD.out.is HD.out.b).mono ?_
  rintro e w4 ⟨A3, c3, A4, c4, rfl, hf, hi, hb, hk⟩
  have HF := Lib.hid hf.now
  replace HD := Lib.hid (HD.out.call hi hb hk)
  clear hi hb hk hf
  go_wp2_with fail
  refine (HS2.out g A3 c3 A4 c4 w w4 HD.out.is HD.out.b HF.out).mono ?_
  intro e w5 hp
  obtain ⟨B3, d3, B4, d4, rfl, hf, hi, hb, hk⟩ := hp.get
  have HF2 := Lib.hid hf.now
  replace HD := Lib.hid (HD.out.call hi hb hk)
  clear hi hb hk hf hp HF
  go_wp2_with fail
  refine (HS3.out g B3 d3 B4 d4 w w5 HD.out.is HD.out.b HF2.out).mono ?_
  intro e w6 hp
  obtain ⟨C3, j3, C4, j4, rfl, hf, hi, hb, hk⟩ := hp.get
  have HF3 := Lib.hid hf.now
  replace HD := Lib.hid (HD.out.call hi hb hk)
  clear hi hb hk hf hp HF2
  go_wp2_with fail
  refine (HS4.out g C3 j3 C4 j4 w w6 HD.out.is HD.out.b HF3.out).mono ?_
  intro e w7 hp
  obtain ⟨E3, k3, E4, k4, rfl, hf, hi, hb, hk⟩ := hp.get
  have HF4 := Lib.hid hf
  have HL6 := Lib.hid (show w.heap.size < w6.heap.size from by have := HD.out.ltW; have := HD.out.lt; have := HW2.out; have := HD.out.size; omega)
  replace HD := Lib.hid (HD.out.call hi hb hk)
  have hr0 : w7.heap[w.heap.size]? = some (.cells #[.int .i64 0, .string ⟨#[]⟩, .int .i64 0, .slice none 0 0, .slice none 0 0] 31) := HD.out.kp.blk HKR.out (fun e => HG.out e.symm) (by simp)
  obtain ⟨z0, z1, z2, z3, z4⟩ := fm_cells hr0
  obtain ⟨f0, f1, f2, f3, f4⟩ := fm_free hr0
  obtain ⟨st1, st2, st3⟩ := st5 hr0 (.int .i64 x4.f0) (.string x4.f1) (.int .i64 x4.f2) (.slice E3 x4.f3.length k3) (.slice E4 x4.f4.length k4)
  have HFIN := Lib.hid (show FmS w.heap.size _ x4 E3 k3 E4 k4 from (HF4.out.move (st3 0 w7 (Below.refl 0 w7) (Nat.zero_le _)).size (fun b h1 h2 => st2 b (by have := HL6.out; omega))).low (by have := HL6.out; omega))
  have HBN := Lib.hid (st3 _ _ HD.out.b (Nat.le_refl _))
  clear hi hb hk hf hp HF3 hr0 st1 st2 st3
  go_wp2_with fail
  refine bodyPost_ret (v := .agg #[.int .i64 x4.f0, .string x4.f1, .int .i64 x4.f2, .slice E3 x4.f3.length k3, .slice E4 x4.f4.length k4]) (by simp [results, Try.results97, go_sem, z0, z1, z2, z3, z4]) rfl ?_
  exact ⟨_, _, _, _, rfl, HFIN.out, HBN.out⟩
set_option maxHeartbeats 1000000 in
theorem drawNames (l : List Int) (hl : ∀ z, z ∈ l → 0 ≤ z ∧ z < 256) : ∃ (x : Fm), x.tot ≤ 7000 ∧ ∀ (A : Option Addr) (c : Nat) (w : World), (Kd.int .u8).C w A l.length l → l.length ≤ c → Calls Try.prog 37 #[.slice A l.length c] w (GetF w x) := by
  obtain ⟨x, ht, hd⟩ := drawValidS l hl
  refine ⟨x, ht, fun A c w hr hc => ?_⟩
  have HC := Lib.hid (fun W (hb : Below w.heap.size w W) => hd A c W (Kd.C_below hr hb) hc)
  clear hd hr ht
  go_enter Try.func37, Try.ntmps37
  go_wp2_with fail
  refine (HC.out _ (below_new _ _)).mono ?_
  rintro e w1 ⟨D3, e3, D4, e4, rfl, hi, hb1⟩
  obtain ⟨k1, b1⟩ := one_new hb1
  obtain ⟨q0, q1, q2, q3, q4⟩ := fm_cells k1
  obtain ⟨f0, f1, f2, f3, f4⟩ := fm_free k1
  obtain ⟨st1, st2, st3⟩ := st5 k1 (.int .i64 x.f0) (.string x.f1) (.int .i64 x.f2) (.slice D3 x.f3.length e3) (.slice D4 x.f4.length e4)
  obtain ⟨z0, z1, z2, z3, z4⟩ := fm_cells st1
  have HF := Lib.hid (show FmS w.heap.size _ x D3 e3 D4 e4 from (hi.move (st3 0 w1 (Below.refl 0 w1) (Nat.zero_le _)).size (fun b h1 h2 => st2 b (by simp at h1; omega))).low (by simp))
  have HB := Lib.hid (st3 _ _ b1 (Nat.le_refl _))
  clear st1 st2 st3 hi hb1 k1 b1
  go_wp2_with fail
  refine bodyPost_ret (v := .agg #[.int .i64 x.f0, .string x.f1, .int .i64 x.f2, .slice D3 x.f3.length e3, .slice D4 x.f4.length e4]) (by simp [results, Try.results37, go_sem, z0, z1, z2, z3, z4]) rfl ?_
  exact ⟨_, _, _, _, rfl, HF.out.now, HB.out⟩
set_option maxHeartbeats 1000000 in
theorem drawStrip (l : List Int) (hl : ∀ z, z ∈ l → 0 ≤ z ∧ z < 256) : ∃ (x : Fm), x.tot ≤ 7000 ∧ ∀ (A : Option Addr) (c : Nat) (w : World), (Kd.int .u8).C w A l.length l → l.length ≤ c → Calls Try.prog 45 #[.slice A l.length c] w (GetF w x) := by
  obtain ⟨x, ht, hd⟩ := drawValidS l hl
  refine ⟨x, ht, fun A c w hr hc => ?_⟩
  have HC := Lib.hid (fun W (hb : Below w.heap.size w W) => hd A c W (Kd.C_below hr hb) hc)
  clear hd hr ht
  go_enter Try.func45, Try.ntmps45
  go_wp2_with fail
  refine (HC.out _ (below_new _ _)).mono ?_
  rintro e w1 ⟨D3, e3, D4, e4, rfl, hi, hb1⟩
  obtain ⟨k1, b1⟩ := one_new hb1
  obtain ⟨q0, q1, q2, q3, q4⟩ := fm_cells k1
  obtain ⟨f0, f1, f2, f3, f4⟩ := fm_free k1
  obtain ⟨st1, st2, st3⟩ := st5 k1 (.int .i64 x.f0) (.string x.f1) (.int .i64 x.f2) (.slice D3 x.f3.length e3) (.slice D4 x.f4.length e4)
  obtain ⟨z0, z1, z2, z3, z4⟩ := fm_cells st1
  have HF := Lib.hid (show FmS w.heap.size _ x D3 e3 D4 e4 from (hi.move (st3 0 w1 (Below.refl 0 w1) (Nat.zero_le _)).size (fun b h1 h2 => st2 b (by simp at h1; omega))).low (by simp))
  have HB := Lib.hid (st3 _ _ b1 (Nat.le_refl _))
  clear st1 st2 st3 hi hb1 k1 b1
  go_wp2_with fail
  refine bodyPost_ret (v := .agg #[.int .i64 x.f0, .string x.f1, .int .i64 x.f2, .slice D3 x.f3.length e3, .slice D4 x.f4.length e4]) (by simp [results, Try.results45, go_sem, z0, z1, z2, z3, z4]) rfl ?_
  exact ⟨_, _, _, _, rfl, HF.out.now, HB.out⟩
end Go.Proofs.Yteonncnhhccgeaa
end
section
namespace Go.Proofs.Yteonncnhhccgeaa
open Go.RowKit Go.Proofs.YteonncnhhccgeaaW.PrintWords Go.Proofs.YteonncnhhccgeaaW.PrintLast Go.Proofs.YteonncnhhccgeaaW.PrintMore
set_option linter.unusedVariables false
set_option linter.unusedSimpArgs false
/-- A row of strings is handed back. -/
def GetN (w : World) (r : List ByteArray) (e : Ending) (w' : World) : Prop := ∃ A c, e = .returned (.slice A r.length c) ∧ r.length ≤ c ∧ kS.C w' A r.length r ∧ Below w.heap.size w w'
theorem RetS.get {w : World} {r : List ByteArray} {e : Ending} {w' : World} (h : RetS w r e w') : GetN w r e w' := by
  obtain ⟨v, rfl, hn, hb⟩ := h
  obtain ⟨A, c, rfl, hc, hC⟩ := own_CS hn
  exact ⟨A, c, rfl, hc, hC, hb⟩
theorem implNm' {x : Fm} {l : List ByteArray} (h : namesN x = l) (A3 : Option Addr) (c3 : Nat) (A4 : Option Addr) (c4 : Nat) (w : World) (hin : FmIn w x A3 c3 A4 c4) (ht : x.tot ≤ 1048576) :
    Calls Try.prog 36 #[.agg #[.int .i64 x.f0, .string x.f1, .int .i64 x.f2, .slice A3 x.f3.length c3, .slice A4 x.f4.length c4]] w (GetN w l) := by
  subst h
  exact (implNames_own x A3 c3 A4 c4 w hin (by have := sizes_totL x; omega)).mono (fun e w' h => h.get)
theorem specNm' {x : Fm} {l : List ByteArray} (h : namesN x = l) (A3 : Option Addr) (c3 : Nat) (A4 : Option Addr) (c4 : Nat) (w : World) (hin : FmIn w x A3 c3 A4 c4) (ht : x.tot ≤ 1048576) :
    Calls Try.prog 39 #[.agg #[.int .i64 x.f0, .string x.f1, .int .i64 x.f2, .slice A3 x.f3.length c3, .slice A4 x.f4.length c4]] w (GetN w l) := by
  subst h
  exact (specNames_own x A3 c3 A4 c4 w hin (by have := sizes_totL x; omega)).mono (fun e w' h => h.get)
theorem mxTexts' {xs ys : List ByteArray} {b : Bool} (h : decide (xs = ys) = b) (A B : Option Addr) (c d : Nat) (w : World) (hr : kS.C w A xs.length xs) (hc : xs.length ≤ c) (hr2 : kS.C w B ys.length ys) (hc2 : ys.length ≤ d) :
    Calls Try.prog 38 #[.slice A xs.length c, .slice B ys.length d] w (Ret w (.bool b)) := h ▸ mxTexts_any xs ys A B c d w hr hc hr2 hc2
theorem mxHasText' {xs : List ByteArray} {n : ByteArray} {b : Bool} (h : decide (n ∈ xs) = b) (A : Option Addr) (c : Nat) (w : World) (hr : kS.C w A xs.length xs) (hc : xs.length ≤ c) :
    Calls Try.prog 41 #[.slice A xs.length c, .string n] w (Ret w (.bool b)) := h ▸ mxHasText_any xs n A c w hr hc
theorem nmStep_nodup {s : List ByteArray} (h : s.Nodup) (y : Fm) : (nmStep s y).Nodup := by
  unfold nmStep
  split
  · rename_i hc
    rw [List.nodup_append]
    exact ⟨h, by simp, fun a ha b hb e => hc.2 (by simp at hb; rw [← hb, ← e]; exact ha)⟩
  · exact h
mutual
theorem names_nodup : ∀ (x : Fm) {s : List ByteArray}, s.Nodup → (foldF nmStep x s).Nodup
  | ⟨a, b, c, d, ks⟩, s, h => by rw [foldF]; exact names_nodupL ks (nmStep_nodup h _)
theorem names_nodupL : ∀ (ks : List Fm) {s : List ByteArray}, s.Nodup → (foldFs nmStep ks s).Nodup
  | [], s, h => by rw [foldFs]; exact h
  | k :: ks, s, h => by rw [foldFs]; exact names_nodupL ks (names_nodup k h)
end
theorem mem_nmStep (s : List ByteArray) (y : Fm) (n : ByteArray) : n ∈ nmStep s y ↔ n ∈ s ∨ (y.f0 = 1 ∧ n = y.f1) := by
  unfold nmStep
  split
  · rename_i hc
    rw [List.mem_append, List.mem_singleton]
    constructor
    · rintro (h | h)
      · exact .inl h
      · exact .inr ⟨hc.1, h⟩
    · rintro (h | h)
      · exact .inl h
      · exact .inr h.2
  · rename_i hc
    constructor
    · exact .inl
    · rintro (h | ⟨h1, h2⟩)
      · exact h
      · exact Classical.byContradiction fun hn => hc ⟨h1, fun hm => hn (h2 ▸ hm)⟩
mutual
theorem mem_names : ∀ (x : Fm) (s : List ByteArray) (n : ByteArray), n ∈ foldF nmStep x s ↔ n ∈ s ∨ n ∈ foldF nmStep x []
  | ⟨a, b, c, d, ks⟩, s, n => by
    rw [foldF, foldF, mem_namesL ks, mem_namesL ks (nmStep [] _), mem_nmStep, mem_nmStep]
    simp [or_assoc]
theorem mem_namesL : ∀ (ks : List Fm) (s : List ByteArray) (n : ByteArray), n ∈ foldFs nmStep ks s ↔ n ∈ s ∨ n ∈ foldFs nmStep ks []
  | [], s, n => by rw [foldFs, foldFs]; simp
  | k :: ks, s, n => by
    rw [foldFs, foldFs, mem_namesL ks, mem_namesL ks (foldF nmStep k []), mem_names k]
    simp [or_assoc]
end
theorem names_len (x : Fm) : (namesN x).length ≤ x.size := by
  have := foldFs_len (step := nmStep) (len := List.length) (cost := fun _ => 1) nmStep_len x []
  rw [cost_nm] at this
  simpa using this
/-- The names of a part are names of the form. -/
theorem names_kid {x k : Fm} (hk : k ∈ x.f4) : ∀ n, n ∈ namesN k → n ∈ namesN x := by
  intro n hn
  show n ∈ foldF nmStep x []
  rw [foldF_eq, mem_namesL]
  refine .inr ?_
  have key : ∀ ks : List Fm, k ∈ ks → n ∈ foldFs nmStep ks [] := by
    intro ks
    induction ks with
    | nil => intro hm; cases hm
    | cons q qs ih =>
      intro hm
      rw [foldFs, mem_namesL]
      rcases List.mem_cons.1 hm with rfl | hm
      · exact .inl hn
      · exact .inr (ih hm)
  exact key x.f4 hk
theorem names_self {x : Fm} (h : x.f0 = 1) : x.f1 ∈ namesN x := by
  show x.f1 ∈ foldF nmStep x []
  rw [foldF_eq, mem_namesL, mem_nmStep]
  exact .inl (.inr ⟨h, rfl⟩)
theorem bare_ch (x : Fm) : x.bare = x.chS (fun _ => []) := by
  induction x using Fm.ind with
  | h x ih =>
    rw [Fm.bare_eq, Fm.chS_eq, List.map_congr_left (fun k hk => ih k hk)]
    simp
theorem bare_bare (x : Fm) : x.bare.bare = x.bare := by rw [bare_ch x, bare_ch, chS_chS]
theorem size_bare (x : Fm) : x.bare.size = x.size := by rw [bare_ch, size_chS]
theorem fmOk_bare {x : Fm} (h : FmOk x) : FmOk x.bare := by
  rw [bare_ch, fmOk_chS h]
  exact AllNm.all (fun _ => scOk_nil) x
theorem nmStep_bare (s : List ByteArray) (x : Fm) : nmStep s x.bare = nmStep s x := by rw [Fm.bare_eq]; rfl
theorem names_bareF (x : Fm) : ∀ s, foldF nmStep x.bare s = foldF nmStep x s := by
  induction x using Fm.ind with
  | h x ih =>
    intro s
    rw [foldF_eq, foldF_eq, nmStep_bare, show x.bare.f4 = x.f4.map Fm.bare from by rw [Fm.bare_eq]]
    have key : ∀ (ks : List Fm), (∀ k, k ∈ ks → k ∈ x.f4) → ∀ s, foldFs nmStep (ks.map Fm.bare) s = foldFs nmStep ks s := by
      intro ks
      induction ks with
      | nil => intro _ s; rfl
      | cons k ks ih2 => intro hs s; rw [List.map_cons, foldFs, foldFs, ih k (hs k List.mem_cons_self), ih2 (fun k' hk => hs k' (List.mem_cons_of_mem _ hk))]
    exact key x.f4 (fun _ h => h) _
theorem names_bare (x : Fm) : namesN x.bare = namesN x := names_bareF x []
theorem tot_bareL (ks : List Fm) (h : ∀ k, k ∈ ks → k.bare.tot ≤ k.tot) : totL (ks.map Fm.bare) ≤ totL ks := by
  induction ks with
  | nil => exact Nat.le_refl _
  | cons k ks ih =>
    have h1 := ih (fun k' hk => h k' (List.mem_cons_of_mem _ hk))
    have h2 := h k List.mem_cons_self
    simp only [List.map_cons, totL]
    omega
theorem tot_bare (x : Fm) : x.bare.tot ≤ x.tot := by
  induction x using Fm.ind with
  | h x ih =>
    have h1 := tot_bareL x.f4 ih
    rw [Fm.bare_eq, Fm.tot_eq, Fm.tot_eq x]
    show x.f1.size + 0 + totL (x.f4.map Fm.bare) ≤ _
    omega
end Go.Proofs.Yteonncnhhccgeaa
end
section
namespace Go.Proofs.Yteonncnhhccgeaa
open Go.RowKit Go.Proofs.YteonncnhhccgeaaW.PrintWords Go.Proofs.YteonncnhhccgeaaW.PrintLast Go.Proofs.YteonncnhhccgeaaW.PrintMore
set_option linter.unusedVariables false
set_option linter.unusedSimpArgs false
abbrev AF (x : Fm) (A3 : Option Addr) (c3 : Nat) (A4 : Option Addr) (c4 : Nat) : Value := .agg #[.int .i64 x.f0, .string x.f1, .int .i64 x.f2, .slice A3 x.f3.length c3, .slice A4 x.f4.length c4]
theorem implSc' {x : Fm} {l : List Int} (h : scAll x = l) (A3 : Option Addr) (c3 : Nat) (A4 : Option Addr) (c4 : Nat) (w : World) (hin : FmIn w x A3 c3 A4 c4) (ht : x.tot ≤ 1048576) :
    Calls Try.prog 34 #[.agg #[.int .i64 x.f0, .string x.f1, .int .i64 x.f2, .slice A3 x.f3.length c3, .slice A4 x.f4.length c4]] w (GetI w l) := by
  subst h
  refine (implScopes_own x A3 c3 A4 c4 w hin ht).mono ?_
  rintro e w' ⟨v, rfl, hv, hb⟩
  obtain ⟨A, c, rfl, hc, hC⟩ := Kd.R_reads hv
  exact ⟨A, c, rfl, hc, hC, hb⟩
theorem specSc' {x : Fm} {l : List Int} (h : scAll x = l) (A3 : Option Addr) (c3 : Nat) (A4 : Option Addr) (c4 : Nat) (w : World) (hin : FmIn w x A3 c3 A4 c4) (ht : x.tot ≤ 1000000) :
    Calls Try.prog 77 #[.agg #[.int .i64 x.f0, .string x.f1, .int .i64 x.f2, .slice A3 x.f3.length c3, .slice A4 x.f4.length c4]] w (GetI w l) := h ▸ specScopes_any x A3 c3 A4 c4 w hin ht
theorem mxSame' {xs ys : List Int} {b : Bool} (h : decide (xs = ys) = b) (A B : Option Addr) (c d : Nat) (w : World) (hr : kI.C w A xs.length xs) (hc : xs.length ≤ c) (hr2 : kI.C w B ys.length ys) (hc2 : ys.length ≤ d) :
    Calls Try.prog 76 #[.slice A xs.length c, .slice B ys.length d] w (Ret w (.bool b)) := h ▸ mxSame_any xs ys A B c d w hr hc hr2 hc2
theorem scAll_ok {x : Fm} (h : FmOk x) : scAll x = foldF putAll x [] := by unfold scAll; rw [if_pos (pB_iff.2 h)]
theorem scAll_no {x : Fm} (h : ¬ FmOk x) : scAll x = [] := by unfold scAll; rw [if_neg (fun k => h (pB_iff.1 k))]
theorem scAll_srt (x : Fm) : Srt (scAll x) := by
  unfold scAll
  split
  · exact srt_all x List.Pairwise.nil
  · exact List.Pairwise.nil
theorem scAll_len (x : Fm) : (scAll x).length ≤ x.tot := by
  unfold scAll
  split
  · have := len_all x []; simpa using this
  · simp
/-- What is true of each scope that each name's row holds is true of each scope of the form. -/
theorem all_chS {g : List Int → List Int} {P : Int → Prop} : ∀ x : Fm, AllNm (fun y => ∀ n, n ∈ g y.f3 → P n) x → ∀ n, n ∈ foldF putAll (x.chS g) [] → P n := by
  intro x
  induction x using Fm.ind with
  | h x ih =>
    intro hA n hn
    rw [Fm.chS_eq, foldF, mem_allL] at hn
    have hl : ∀ (ks : List Fm), (∀ k, k ∈ ks → k ∈ x.f4) → ∀ n, n ∈ foldFs putAll (ks.map (Fm.chS g)) [] → P n := by
      intro ks
      induction ks with
      | nil => intro _ n hn; rw [List.map_nil, foldFs] at hn; cases hn
      | cons k ks ih2 =>
        intro hs n hn
        rw [List.map_cons, foldFs, mem_allL] at hn
        rcases hn with hn | hn
        · exact ih k (hs k List.mem_cons_self) (hA.kid k (hs k List.mem_cons_self)) n hn
        · exact ih2 (fun k' hk => hs k' (List.mem_cons_of_mem _ hk)) n hn
    rcases hn with hn | hn
    · have hn2 : n ∈ (if x.f0 = 1 then g x.f3 else []).foldl putS [] := hn
      rw [mem_putL] at hn2
      rcases hn2 with hn2 | hn2
      · cases hn2
      · by_cases h1 : x.f0 = 1
        · rw [if_pos h1] at hn2; exact hA.at h1 n hn2
        · rw [if_neg h1] at hn2; cases hn2
    · exact hl x.f4 (fun _ h => h) n hn
theorem wB_one {n : Int} {l : List Int} : wB [n] l = true ↔ n ∈ l := by rw [wB_iff]; simp
theorem bool_no {b : Bool} {p : Prop} (h : b = true ↔ p) (hp : ¬ p) : b = false := by rw [Bool.eq_false_iff]; exact fun k => hp (h.1 k)
/-- A scope that is taken off is none of the form's. -/
theorem drop_gone {n : Int} {x z : Fm} (h : reS (fun l => takeO l n) n x = (z, true)) : wB [n] (scAll z) = false := by
  obtain ⟨hx, h1, h2, hz, rfl⟩ := reS_true h
  refine bool_no wB_one (fun hm => ?_)
  rw [scAll_ok hz] at hm
  exact all_chS (P := fun m => m ≠ n) x (AllNm.all (fun y m hm => ((mem_takeO _ _ _).1 hm).2) x) n hm rfl
/-- Adding a scope and taking it off is taking it off. -/
theorem add_drop {n : Int} {x y z : Fm} (h1 : reS (fun l => takeO l n) n x = (z, true)) (h2 : reS (fun l => putS l n) n x = (y, true)) : reS (fun l => takeO l n) n y = (z, true) := by
  obtain ⟨hx, a1, a2, hz, rfl⟩ := reS_true h1
  obtain ⟨_, _, _, hy, rfl⟩ := reS_true h2
  have e : (x.chS (fun l => putS l n)).chS (fun l => takeO l n) = x.chS (fun l => takeO l n) := by
    rw [chS_chS]
    exact chS_ext ((fmOk_sc hx).imp (fun y hy => takeO_putS ((scOk_iff.1 hy).2.1) n))
  rw [reS_in hy a1 a2, e, orN_yes hz]
/-- The scopes of a part are scopes of the form. -/
theorem scAll_kid {x : Fm} (h : FmOk x) {k : Fm} (hk : k ∈ x.f4) : wB (scAll k) (scAll x) = true := by
  rw [scAll_ok h, scAll_ok (fmOk_kid h k hk), wB_iff]
  intro n hn
  rw [foldF_eq, mem_allL]
  refine .inr ?_
  have key : ∀ ks : List Fm, k ∈ ks → n ∈ foldFs putAll ks [] := by
    intro ks
    induction ks with
    | nil => intro hm; cases hm
    | cons q qs ih =>
      intro hm
      rw [foldFs, mem_allL]
      rcases List.mem_cons.1 hm with rfl | hm
      · exact .inl hn
      · exact .inr (ih hm)
  exact key x.f4 hk
theorem putL_self {l : List Int} (h : Srt l) : l.foldl putS [] = l := srt_ext (srt_putL l List.Pairwise.nil) h (fun n => by rw [mem_putL]; simp)
/-- The scopes of a name are its scopes. -/
theorem scAll_name {x : Fm} (h : FmOk x) (h1 : x.f0 = 1) : scAll x = x.f3 := by
  rw [scAll_ok h, foldF_eq]
  obtain ⟨m, _, hc⟩ := isOk_cases h.1
  have hk : x.f4 = [] := by rcases hc with h | h | h <;> first | exact h.2.2.2.2 | omega
  rw [hk, foldFs]
  exact putL_self (scOk_iff.1 ((fmOk_sc h).at h1)).2.1
set_option maxHeartbeats 1000000 in
theorem drawScopes (l : List Int) (hl : ∀ z, z ∈ l → 0 ≤ z ∧ z < 256) : ∃ (x : Fm), x.tot ≤ 7000 ∧ ∀ (A : Option Addr) (c : Nat) (w : World), (Kd.int .u8).C w A l.length l → l.length ≤ c → Calls Try.prog 75 #[.slice A l.length c] w (GetF w x) := by
  obtain ⟨x, n, ht, h0, h1, hd⟩ := l2Case_ex l hl
  refine ⟨x, ht, fun A c w hr hc => ?_⟩
  have HC := Lib.hid (fun W (hb : Below w.heap.size w W) => hd A c W (Kd.C_below hr hb) hc)
  clear hd hr ht h0 h1
  go_enter Try.func75, Try.ntmps75
  go_wp2_with fail
  refine (HC.out _ (below_new _ _)).mono ?_
  rintro e w1 ⟨D3, e3, D4, e4, rfl, hi, hb1⟩
  obtain ⟨k1, b1⟩ := one_new hb1
  have k2 := blk_below k1 (below_new w1 (.cells #[.int .i64 x.f0, .string x.f1, .int .i64 x.f2, .slice D3 x.f3.length e3, .slice D4 x.f4.length e4] 31))
  obtain ⟨q0, q1, q2, q3, q4⟩ := fm_cells k2
  obtain ⟨f0, f1, f2, f3, f4⟩ := fm_free k2
  obtain ⟨p0, p1, p2, p3, p4⟩ := fm_cells (blk_new w1 (.cells #[.int .i64 x.f0, .string x.f1, .int .i64 x.f2, .slice D3 x.f3.length e3, .slice D4 x.f4.length e4] 31))
  obtain ⟨st1, st2, st3⟩ := st5 k2 (.int .i64 x.f0) (.string x.f1) (.int .i64 x.f2) (.slice D3 x.f3.length e3) (.slice D4 x.f4.length e4)
  obtain ⟨z0, z1, z2, z3, z4⟩ := fm_cells st1
  have HF := Lib.hid (show FmS w.heap.size _ x D3 e3 D4 e4 from ((hi.later (below_new w1 (.cells #[.int .i64 x.f0, .string x.f1, .int .i64 x.f2, .slice D3 x.f3.length e3, .slice D4 x.f4.length e4] 31))).move (st3 0 _ (Below.refl 0 _) (Nat.zero_le _)).size (fun b h1 h2 => st2 b (by simp at h1; omega))).low (by simp))
  have HB := Lib.hid (st3 _ _ (below_step b1 (below_new w1 _)) (Nat.le_refl _))
  clear st1 st2 st3 hi hb1 k1 b1 k2
  go_wp2_with fail
  refine bodyPost_ret (v := .agg #[.int .i64 x.f0, .string x.f1, .int .i64 x.f2, .slice D3 x.f3.length e3, .slice D4 x.f4.length e4]) (by simp [results, Try.results75, go_sem, z0, z1, z2, z3, z4]) rfl ?_
  exact ⟨_, _, _, _, rfl, HF.out.now, HB.out⟩
/-- Adding a scope twice is adding it once. -/
theorem add_again {n : Int} {x z : Fm} (h1 : reS (fun l => putS l n) n x = (z, true)) : reS (fun l => putS l n) n z = (z, true) := by
  obtain ⟨hx, a1, a2, hz, rfl⟩ := reS_true h1
  have e : (x.chS (fun l => putS l n)).chS (fun l => putS l n) = x.chS (fun l => putS l n) := by
    rw [chS_chS]
    exact chS_ext (AllNm.all (fun y => putS_putS n) x)
  rw [reS_in hz a1 a2, e, orN_yes hz]
theorem name_has {g : List Int → List Int} {n : Int} (hg : ∀ l, n ∈ g l) : ∀ x : Fm, (∃ m, m ∈ foldF nmStep x []) → n ∈ foldF putAll (x.chS g) [] := by
  intro x
  induction x using Fm.ind with
  | h x ih =>
    rintro ⟨m, hm⟩
    rw [foldF_eq, mem_namesL, mem_nmStep] at hm
    rw [Fm.chS_eq, foldF, mem_allL]
    rcases hm with (hm | hm) | hm
    · cases hm
    · refine .inl ?_
      show n ∈ (if x.f0 = 1 then g x.f3 else []).foldl putS []
      rw [mem_putL, if_pos hm.1]
      exact .inr (hg _)
    · refine .inr ?_
      have key : ∀ ks : List Fm, (∀ k, k ∈ ks → k ∈ x.f4) → m ∈ foldFs nmStep ks [] → n ∈ foldFs putAll (ks.map (Fm.chS g)) [] := by
        intro ks
        induction ks with
        | nil => intro _ h; rw [foldFs] at h; cases h
        | cons k ks ih2 =>
          intro hs h
          rw [foldFs, mem_namesL] at h
          rw [List.map_cons, foldFs, mem_allL]
          rcases h with h | h
          · exact .inl (ih k (hs k List.mem_cons_self) ⟨m, h⟩)
          · exact .inr (ih2 (fun k' hk => hs k' (List.mem_cons_of_mem _ hk)) h)
      exact key x.f4 (fun _ h => h) hm
theorem chS_more {g f : List Int → List Int} (hg : ∀ l (m : Int), m ∈ f l → m ∈ g l) : ∀ (x : Fm) (m : Int), m ∈ foldF putAll (x.chS f) [] → m ∈ foldF putAll (x.chS g) [] := by
  intro x
  induction x using Fm.ind with
  | h x ih =>
    intro m hm
    rw [Fm.chS_eq, foldF, mem_allL] at hm
    rw [Fm.chS_eq, foldF, mem_allL]
    rcases hm with hm | hm
    · refine .inl ?_
      have h2 : m ∈ (if x.f0 = 1 then f x.f3 else []).foldl putS [] := hm
      show m ∈ (if x.f0 = 1 then g x.f3 else []).foldl putS []
      rw [mem_putL] at h2 ⊢
      rcases h2 with h2 | h2
      · exact .inl h2
      · by_cases h0 : x.f0 = 1
        · rw [if_pos h0] at h2 ⊢; exact .inr (hg _ _ h2)
        · rw [if_neg h0] at h2; cases h2
    · refine .inr ?_
      have key : ∀ ks : List Fm, (∀ k, k ∈ ks → k ∈ x.f4) → m ∈ foldFs putAll (ks.map (Fm.chS f)) [] → m ∈ foldFs putAll (ks.map (Fm.chS g)) [] := by
        intro ks
        induction ks with
        | nil => intro _ h; exact h
        | cons k ks ih2 =>
          intro hs h
          rw [List.map_cons, foldFs, mem_allL] at h
          rw [List.map_cons, foldFs, mem_allL]
          rcases h with h | h
          · exact .inl (ih k (hs k List.mem_cons_self) m h)
          · exact .inr (ih2 (fun k' hk => hs k' (List.mem_cons_of_mem _ hk)) h)
      exact key x.f4 (fun _ h => h) hm
/-- Where a form has a name, a scope that is added is one of its scopes; the others stay. -/
theorem add_has {n : Int} {x z : Fm} (h1 : reS (fun l => putS l n) n x = (z, true)) : (namesN x ≠ [] → wB [n] (scAll z) = true) ∧ wB (scAll x) (scAll z) = true := by
  obtain ⟨hx, a1, a2, hz, rfl⟩ := reS_true h1
  rw [scAll_ok hz, scAll_ok hx]
  refine ⟨fun hne => wB_one.2 (name_has (fun l => (mem_putS _ _ _).2 (.inr rfl)) x ?_), wB_iff.2 (fun m hm => ?_)⟩
  · obtain ⟨m, hm⟩ := List.exists_mem_of_ne_nil _ hne
    exact ⟨m, hm⟩
  · have := chS_more (f := fun l => l) (g := fun l => putS l n) (fun l m hm => (mem_putS _ _ _).2 (.inl hm)) x m
    rw [isOk_chS_id hx.1] at this
    exact this hm
end Go.Proofs.Yteonncnhhccgeaa
end
