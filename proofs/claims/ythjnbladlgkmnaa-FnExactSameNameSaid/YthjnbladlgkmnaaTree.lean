/- A form in new memory, with the list of the blocks that it lies in (its footprint): each block once, if the list has no doubles. -/
import Derived.Test.YthjnbladlgkmnaaFm
namespace Go.Proofs.Ythjnbladlgkmnaa
open Go.RowKit Go.Proofs.YthjnbladlgkmnaaW.PrintWords Go.Proofs.YthjnbladlgkmnaaW.PrintLast Go.Proofs.YthjnbladlgkmnaaW.PrintMore
set_option linter.unusedVariables false
set_option linter.unusedSimpArgs false

abbrev encI (xs : List Int) : List Value := encs (Value.int .i64) xs
abbrev obs (v : Value) : List Nat := v.ownBlock.toList
mutual
inductive TrF (w : World) : Fm → Value → Value → List Nat → Prop
  | mk (x : Fm) (v3 v4 : Value) (inner : List Value) (fp : List Nat) (h3 : w.ownsRow 0 3 1 v3 x.sc.length (encI x.sc)) (h4 : w.ownsRow 0 34 5 v4 x.kids.length inner) (hk : TrL w x.kids inner fp) : TrF w x v3 v4 (obs v3 ++ (obs v4 ++ fp))
inductive TrL (w : World) : List Fm → List Value → List Nat → Prop
  | nil : TrL w [] [] []
  | cons (k : Fm) (ks : List Fm) (v3 v4 : Value) (rest : List Value) (fk fs : List Nat) (hk : TrF w k v3 v4 fk) (hs : TrL w ks rest fs) : TrL w (k :: ks) ([.int .i64 k.kind, .string k.name, .int .i64 k.num, v3, v4] ++ rest) (fk ++ fs)
end
theorem TrF.open {w : World} {x : Fm} {v3 v4 : Value} {fp : List Nat} (h : TrF w x v3 v4 fp) : ∃ inner fk, fp = obs v3 ++ (obs v4 ++ fk) ∧ w.ownsRow 0 3 1 v3 x.sc.length (encI x.sc) ∧ w.ownsRow 0 34 5 v4 x.kids.length inner ∧ TrL w x.kids inner fk := by
  cases h with
  | mk _ _ _ inner fk h3 h4 hk => exact ⟨inner, fk, rfl, h3, h4, hk⟩
theorem TrL.cons_inv {w : World} {k : Fm} {ks : List Fm} {inner : List Value} {fp : List Nat} (h : TrL w (k :: ks) inner fp) : ∃ v3 v4 rest fk fs, inner = [.int .i64 k.kind, .string k.name, .int .i64 k.num, v3, v4] ++ rest ∧ fp = fk ++ fs ∧ TrF w k v3 v4 fk ∧ TrL w ks rest fs := by
  cases h with
  | cons _ _ v3 v4 rest fk fs hk hs => exact ⟨v3, v4, rest, fk, fs, rfl, rfl, hk, hs⟩
theorem TrL.nil_inv {w : World} {inner : List Value} {fp : List Nat} (h : TrL w [] inner fp) : inner = [] ∧ fp = [] := by
  cases h
  exact ⟨rfl, rfl⟩
/-- A fact on forms, shown for forms and lists of forms at once. -/
theorem TrL.of {w : World} {Q : List Fm → List Value → List Nat → Prop} (hn : Q [] [] []) (hc : ∀ k ks v3 v4 rest fk fs, TrF w k v3 v4 fk → TrL w ks rest fs → Q ks rest fs → Q (k :: ks) ([.int .i64 k.kind, .string k.name, .int .i64 k.num, v3, v4] ++ rest) (fk ++ fs)) : ∀ {ks : List Fm} {inner : List Value} {fp : List Nat}, TrL w ks inner fp → Q ks inner fp := by
  intro ks
  induction ks with
  | nil => intro inner fp h; obtain ⟨rfl, rfl⟩ := h.nil_inv; exact hn
  | cons k ks ih =>
    intro inner fp h
    obtain ⟨v3, v4, rest, fk, fs, rfl, rfl, hk, hs⟩ := h.cons_inv
    exact hc k ks v3 v4 rest fk fs hk hs (ih hs)
theorem TrL.len {w : World} {ks : List Fm} {inner : List Value} {fp : List Nat} (h : TrL w ks inner fp) : inner.length = ks.length * 5 := by
  refine TrL.of (Q := fun ks inner _ => inner.length = ks.length * 5) rfl ?_ h
  intro k ks v3 v4 rest fk fs _ _ ih
  simp [ih]; omega
theorem TrL.append {w : World} {a b : List Fm} {ia ib : List Value} {fa fb : List Nat} (ha : TrL w a ia fa) (hb : TrL w b ib fb) : TrL w (a ++ b) (ia ++ ib) (fa ++ fb) := by
  refine TrL.of (Q := fun a ia fa => TrL w (a ++ b) (ia ++ ib) (fa ++ fb)) hb ?_ ha
  intro k ks v3 v4 rest fk fs hk _ ih
  rw [List.cons_append, List.append_assoc, List.append_assoc]
  exact .cons k _ v3 v4 _ fk _ hk ih
theorem TrL.one {w : World} {k : Fm} {v3 v4 : Value} {fk : List Nat} (hk : TrF w k v3 v4 fk) : TrL w [k] [.int .i64 k.kind, .string k.name, .int .i64 k.num, v3, v4] fk := by
  have := TrL.cons k [] v3 v4 [] fk [] hk .nil
  simpa using this
theorem TrL.split {w : World} (a : List Fm) : ∀ {b : List Fm} {inner : List Value} {fp : List Nat}, TrL w (a ++ b) inner fp → ∃ ia ib fa fb, inner = ia ++ ib ∧ fp = fa ++ fb ∧ TrL w a ia fa ∧ TrL w b ib fb := by
  induction a with
  | nil => intro b inner fp h; exact ⟨[], inner, [], fp, rfl, rfl, .nil, h⟩
  | cons k ks ih =>
    intro b inner fp h
    obtain ⟨v3, v4, rest, fk, fs, rfl, rfl, hk, hs⟩ := TrL.cons_inv (ks := ks ++ b) h
    obtain ⟨ia, ib, fa, fb, rfl, rfl, h1, h2⟩ := ih hs
    exact ⟨_ ++ ia, ib, fk ++ fa, fb, by rw [List.append_assoc], by rw [List.append_assoc], .cons k ks v3 v4 ia fk fa hk h1, h2⟩
theorem obs_mem {v : Value} {k : Nat} : k ∈ obs v ↔ v.ownBlock = some k := by
  unfold obs
  cases v.ownBlock <;> simp [eq_comm]
/-- Where the blocks of the footprint stand as they stood, the form stands. -/
theorem TrF.move {w w1 : World} : ∀ (x : Fm) {v3 v4 : Value} {fp : List Nat}, TrF w x v3 v4 fp → (∀ b, b ∈ fp → w1.heap[b]? = w.heap[b]?) → TrF w1 x v3 v4 fp := by
  intro x
  induction x using Fm.ind with
  | h x ih =>
    intro v3 v4 fp h hm
    obtain ⟨inner, fk, rfl, h3, h4, hk⟩ := h.open
    refine .mk x v3 v4 inner fk (own_move h3 (fun k hk => hm k (by simp [obs_mem, hk]))) (own_move h4 (fun k hk => hm k (by simp [obs_mem, hk]))) ?_
    have key : ∀ (ks : List Fm), (∀ k, k ∈ ks → k ∈ x.kids) → ∀ {inner : List Value} {fk : List Nat}, TrL w ks inner fk → (∀ b, b ∈ fk → w1.heap[b]? = w.heap[b]?) → TrL w1 ks inner fk := by
      intro ks
      induction ks with
      | nil => intro _ inner fk h _; obtain ⟨rfl, rfl⟩ := h.nil_inv; exact .nil
      | cons k ks ih2 =>
        intro hsub inner fk h hm
        obtain ⟨u3, u4, rest, f1, f2, rfl, rfl, hk, hs⟩ := h.cons_inv
        exact .cons k ks u3 u4 rest f1 f2 (ih k (hsub k List.mem_cons_self) hk (fun b hb => hm b (List.mem_append_left _ hb))) (ih2 (fun k hk => hsub k (List.mem_cons_of_mem _ hk)) hs (fun b hb => hm b (List.mem_append_right _ hb)))
    exact key x.kids (fun _ h => h) hk (fun b hb => hm b (by simp [hb]))
theorem TrL.move {w w1 : World} : ∀ (ks : List Fm) {inner : List Value} {fk : List Nat}, TrL w ks inner fk → (∀ b, b ∈ fk → w1.heap[b]? = w.heap[b]?) → TrL w1 ks inner fk := by
  intro ks
  induction ks with
  | nil => intro inner fk h _; obtain ⟨rfl, rfl⟩ := h.nil_inv; exact .nil
  | cons k ks ih2 =>
    intro inner fk h hm
    obtain ⟨u3, u4, rest, f1, f2, rfl, rfl, hk, hs⟩ := h.cons_inv
    exact .cons k ks u3 u4 rest f1 f2 (hk.move k (fun b hb => hm b (List.mem_append_left _ hb))) (ih2 hs (fun b hb => hm b (List.mem_append_right _ hb)))
theorem TrF.lt {w : World} : ∀ (x : Fm) {v3 v4 : Value} {fp : List Nat}, TrF w x v3 v4 fp → ∀ b, b ∈ fp → b < w.heap.size := by
  intro x
  induction x using Fm.ind with
  | h x ih =>
    intro v3 v4 fp h b hb
    obtain ⟨inner, fk, rfl, h3, h4, hk⟩ := h.open
    rcases List.mem_append.1 hb with hb | hb
    · exact own_lt h3 b (obs_mem.1 hb)
    rcases List.mem_append.1 hb with hb | hb
    · exact own_lt h4 b (obs_mem.1 hb)
    have key : ∀ (ks : List Fm), (∀ k, k ∈ ks → k ∈ x.kids) → ∀ {inner : List Value} {fk : List Nat}, TrL w ks inner fk → ∀ b, b ∈ fk → b < w.heap.size := by
      intro ks
      induction ks with
      | nil => intro _ inner fk h b hb; obtain ⟨rfl, rfl⟩ := h.nil_inv; cases hb
      | cons k ks ih2 =>
        intro hsub inner fk h b hb
        obtain ⟨u3, u4, rest, f1, f2, rfl, rfl, hk, hs⟩ := h.cons_inv
        rcases List.mem_append.1 hb with hb | hb
        · exact ih k (hsub k List.mem_cons_self) hk b hb
        · exact ih2 (fun k hk => hsub k (List.mem_cons_of_mem _ hk)) hs b hb
    exact key x.kids (fun _ h => h) hk b hb
theorem TrL.lt {w : World} : ∀ (ks : List Fm) {inner : List Value} {fk : List Nat}, TrL w ks inner fk → ∀ b, b ∈ fk → b < w.heap.size := by
  intro ks
  induction ks with
  | nil => intro inner fk h b hb; obtain ⟨rfl, rfl⟩ := h.nil_inv; cases hb
  | cons k ks ih2 =>
    intro inner fk h b hb
    obtain ⟨u3, u4, rest, f1, f2, rfl, rfl, hk, hs⟩ := h.cons_inv
    rcases List.mem_append.1 hb with hb | hb
    · exact hk.lt k b hb
    · exact ih2 hs b hb
theorem TrF.later {w w1 : World} {x : Fm} {v3 v4 : Value} {fp : List Nat} (h : TrF w x v3 v4 fp) (hb : Below w.heap.size w w1) : TrF w1 x v3 v4 fp := h.move x (fun b hb2 => hb.block b (h.lt x b hb2))
theorem TrL.later {w w1 : World} {ks : List Fm} {inner : List Value} {fp : List Nat} (h : TrL w ks inner fp) (hb : Below w.heap.size w w1) : TrL w1 ks inner fp := h.move ks (fun b hb2 => hb.block b (h.lt ks b hb2))
/-- A row of numbers reads. -/
theorem own_C {w : World} {v : Value} {xs : List Int} (h : w.ownsRow 0 3 1 v xs.length (encI xs)) : ∃ A c, v = .slice A xs.length c ∧ xs.length ≤ c ∧ kI.C w A xs.length xs := by
  obtain ⟨A, c, e, hr⟩ := own_reads_row (R := kI.K w) h (Kd.reps_scalar xs) rfl
  subst e
  exact ⟨A, c, rfl, own_le h, hr⟩
/-- A form in new memory reads. -/
theorem TrF.In {w : World} : ∀ (x : Fm) {v3 v4 : Value} {fp : List Nat}, TrF w x v3 v4 fp → ∃ A3 c3 A4 c4, v3 = .slice A3 x.sc.length c3 ∧ v4 = .slice A4 x.kids.length c4 ∧ FmIn w x A3 c3 A4 c4 := by
  intro x
  induction x using Fm.ind with
  | h x ih =>
    intro v3 v4 fp h
    obtain ⟨inner, fk, rfl, h3, h4, hk⟩ := h.open
    obtain ⟨A3, c3, rfl, l3, r3⟩ := own_C h3
    have key : ∀ (ks : List Fm), (∀ k, k ∈ ks → k ∈ x.kids) → ∀ {inner : List Value} {fk : List Nat}, TrL w ks inner fk → Reps (kF.K w) 5 ks inner := by
      intro ks
      induction ks with
      | nil => intro _ inner fk h; obtain ⟨rfl, rfl⟩ := h.nil_inv; exact Reps.none _ _
      | cons k ks ih2 =>
        intro hsub inner fk h
        obtain ⟨u3, u4, rest, f1, f2, rfl, rfl, hk, hs⟩ := h.cons_inv
        obtain ⟨B3, d3, B4, d4, rfl, rfl, hin⟩ := ih k (hsub k List.mem_cons_self) hk
        have hr := ih2 (fun k hk => hsub k (List.mem_cons_of_mem _ hk)) hs
        refine ⟨by rw [List.length_append, hr.1]; simp; omega, fun j p hj => ?_⟩
        cases j with
        | zero =>
          have : k = p := by simpa using hj
          subst this
          simpa using kF_mk hin
        | succ j =>
          have h2 := hr.2 j p (by simpa using hj)
          rw [show (j + 1) * 5 = 5 + j * 5 from by omega, ← List.drop_drop]
          simpa using h2
    obtain ⟨A4, c4, e, r4⟩ := own_reads_row (R := kF.K w) h4 (key x.kids (fun _ h => h) hk) rfl
    subst e
    exact ⟨A3, c3, A4, c4, rfl, rfl, l3, r3, own_le h4, r4⟩
theorem TrL.reps {w : World} : ∀ (ks : List Fm) {inner : List Value} {fk : List Nat}, TrL w ks inner fk → Reps (kF.K w) 5 ks inner := by
  intro ks
  induction ks with
  | nil => intro inner fk h; obtain ⟨rfl, rfl⟩ := h.nil_inv; exact Reps.none _ _
  | cons k ks ih2 =>
    intro inner fk h
    obtain ⟨u3, u4, rest, f1, f2, rfl, rfl, hk, hs⟩ := h.cons_inv
    obtain ⟨B3, d3, B4, d4, rfl, rfl, hin⟩ := hk.In k
    have hr := ih2 hs
    refine ⟨by rw [List.length_append, hr.1]; simp; omega, fun j p hj => ?_⟩
    cases j with
    | zero =>
      have : k = p := by simpa using hj
      subst this
      simpa using kF_mk hin
    | succ j =>
      have h2 := hr.2 j p (by simpa using hj)
      rw [show (j + 1) * 5 = 5 + j * 5 from by omega, ← List.drop_drop]
      simpa using h2
theorem TrL.C {w : World} {ks : List Fm} {inner : List Value} {fk : List Nat} {v : Value} (h : TrL w ks inner fk) (h4 : w.ownsRow 0 34 5 v ks.length inner) : ∃ A c, v = .slice A ks.length c ∧ ks.length ≤ c ∧ kF.C w A ks.length ks := by
  obtain ⟨A4, c4, e, r4⟩ := own_reads_row (R := kF.K w) h4 (h.reps ks) rfl
  subst e
  exact ⟨A4, c4, rfl, own_le h4, r4⟩
/-- Five stores, one behind the other: an element of a row. -/
abbrev set5 (w : World) (g o : Nat) (b0 b1 b2 b3 b4 : Value) : World := ((((w.setCell ⟨g, o, none⟩ b0).setCell ⟨g, o + 1, none⟩ b1).setCell ⟨g, o + 2, none⟩ b2).setCell ⟨g, o + 3, none⟩ b3).setCell ⟨g, o + 4, none⟩ b4
theorem set5_far (w : World) (g o : Nat) (b0 b1 b2 b3 b4 : Value) (k : Nat) (h : k ≠ g) : (set5 w g o b0 b1 b2 b3 b4).heap[k]? = w.heap[k]? := by
  unfold set5
  rw [Below.heap_setCell _ _ _ _ h, Below.heap_setCell _ _ _ _ h, Below.heap_setCell _ _ _ _ h, Below.heap_setCell _ _ _ _ h, Below.heap_setCell _ _ _ _ h]
theorem set5_below {B : Nat} {a w : World} (h : Below B a w) {g : Nat} (hg : B ≤ g) (o : Nat) (b0 b1 b2 b3 b4 : Value) : Below B a (set5 w g o b0 b1 b2 b3 b4) :=
  ((((h.setCell (p := ⟨g, _, none⟩) hg _).setCell (p := ⟨g, _, none⟩) hg _).setCell (p := ⟨g, _, none⟩) hg _).setCell (p := ⟨g, _, none⟩) hg _).setCell (p := ⟨g, _, none⟩) hg _
theorem row_put {w : World} {e g n cap i : Nat} {inner rest : List Value} {a0 a1 a2 a3 a4 : Value} (h : w.ownsRow 0 e 5 (.slice (some ⟨g, 0, none⟩) n cap) n (inner ++ ([a0, a1, a2, a3, a4] ++ rest))) (hl : inner.length = i * 5) :
    (w.cell? ⟨g, i * 5, none⟩ = some a0 ∧ w.cell? ⟨g, i * 5 + 1, none⟩ = some a1 ∧ w.cell? ⟨g, i * 5 + 2, none⟩ = some a2 ∧ w.cell? ⟨g, i * 5 + 3, none⟩ = some a3 ∧ w.cell? ⟨g, i * 5 + 4, none⟩ = some a4) ∧
    (∀ j, w.frozen? ⟨g, j, none⟩ = false) ∧
    ∀ b0 b1 b2 b3 b4, (set5 w g (i * 5) b0 b1 b2 b3 b4).ownsRow 0 e 5 (.slice (some ⟨g, 0, none⟩) n cap) n (inner ++ ([b0, b1, b2, b3, b4] ++ rest)) := by
  have hn : inner.length + 5 + rest.length = n * 5 := by have := h.1; simp at this; omega
  have hc : ∀ j, j < 5 → w.cell? ⟨g, i * 5 + j, none⟩ = ([a0, a1, a2, a3, a4] ++ rest)[j]? := by
    intro j hj
    rw [World.ownsRow.cellAt h _ (by omega), List.getElem?_append_right (by omega)]
    congr 1
    omega
  refine ⟨⟨hc 0 (by omega), hc 1 (by omega), hc 2 (by omega), hc 3 (by omega), hc 4 (by omega)⟩, fun j => World.ownsRow.frozenAt h j, fun b0 b1 b2 b3 b4 => ?_⟩
  have s0 := (World.ownsRow.stored h (i * 5) b0).1
  have s1 := (World.ownsRow.stored s0 (i * 5 + 1) b1).1
  have s2 := (World.ownsRow.stored s1 (i * 5 + 2) b2).1
  have s3 := (World.ownsRow.stored s2 (i * 5 + 3) b3).1
  have s4 := (World.ownsRow.stored s3 (i * 5 + 4) b4).1
  have e : ((((((inner ++ ([a0, a1, a2, a3, a4] ++ rest)).set (i * 5) b0).set (i * 5 + 1) b1).set (i * 5 + 2) b2).set (i * 5 + 3) b3).set (i * 5 + 4) b4) = inner ++ ([b0, b1, b2, b3, b4] ++ rest) := by
    rw [← hl]
    simp [List.set_append]
  rw [e] at s4
  exact s4
end Go.Proofs.Ythjnbladlgkmnaa
