/- Regions, in plain Lean: rows merged, rows built into bands. -/
import Derived.Test.YtglhenobodndjaaGreatDoorCanon
namespace Go.Proofs.YtglhenobodndjaaGreatDoor

/-- The spans of a row, so far. -/
def RowI (p out : List Sp) : Prop := Gap out ∧ (∀ x, inSp out x ↔ inSp p x) ∧ ∀ t ∈ out, ∃ q ∈ p, t.1 ≤ q.1
theorem RowI.nil : RowI [] [] := ⟨trivial, fun _ => Iff.rfl, fun _ h => (by cases h)⟩
theorem inSp_one (s : Sp) (x : Int) : inSp [s] x ↔ s.1 ≤ x ∧ x < s.2 := by unfold inSp; simp
theorem RowI.start {p : List Sp} {s : Sp} (h : RowI p []) (hs : s.1 < s.2) : RowI (p ++ [s]) [s] := by
  refine ⟨⟨hs, fun _ h => (by cases h), trivial⟩, fun x => ?_, fun t ht => ⟨s, by simp, by rw [List.mem_singleton.1 ht]; exact Int.le_refl _⟩⟩
  rw [inSp_append, ← h.2.1 x]
  constructor
  · exact .inr
  · rintro (q | q)
    · exact absurd q (inSp_nil _)
    · exact q
theorem RowI.meet {p o : List Sp} {u s : Sp} (h : RowI p (o ++ [u])) (hs : s.1 < s.2) (hle : ∀ q ∈ p, q.1 ≤ s.1) (hm : s.1 ≤ u.2) : RowI (p ++ [s]) (o ++ [(u.1, max u.2 s.2)]) := by
  have hu : u.1 ≤ s.1 := by obtain ⟨q, hq, h1⟩ := h.2.2 u (by simp); have := hle q hq; omega
  refine ⟨gap_last h.1 (by omega), fun x => ?_, fun t ht => ?_⟩
  · have h1 := h.2.1 x
    rw [inSp_append, inSp_one] at h1
    rw [inSp_append, inSp_append, ← h1, inSp_one, inSp_one]
    constructor
    · rintro (q | q)
      · exact .inl (.inl q)
      · by_cases c : x < u.2
        · exact .inl (.inr ⟨q.1, c⟩)
        · exact .inr ⟨by omega, by have := q.2; simp only at this; omega⟩
    · rintro ((q | q) | q)
      · exact .inl q
      · exact .inr ⟨q.1, by simp only; omega⟩
      · exact .inr ⟨by simp only; omega, by simp only; omega⟩
  · rcases List.mem_append.1 ht with h1 | h1
    · obtain ⟨q, hq, h2⟩ := h.2.2 t (List.mem_append_left _ h1); exact ⟨q, List.mem_append_left _ hq, h2⟩
    · rw [List.mem_singleton.1 h1]; exact ⟨s, by simp, hu⟩
theorem RowI.apart {p o : List Sp} {u s : Sp} (h : RowI p (o ++ [u])) (hs : s.1 < s.2) (hm : u.2 < s.1) : RowI (p ++ [s]) (o ++ [u] ++ [s]) := by
  refine ⟨gap_snoc h.1 hs fun t ht => ?_, fun x => ?_, fun t ht => ?_⟩
  · rcases List.mem_append.1 ht with h1 | h1
    · have := gap_lt_last h.1 t h1; have := gap_end h.1; omega
    · rw [List.mem_singleton.1 h1]; exact hm
  · rw [inSp_append, inSp_append p, h.2.1 x]
  · rcases List.mem_append.1 ht with h1 | h1
    · obtain ⟨q, hq, h2⟩ := h.2.2 t h1; exact ⟨q, List.mem_append_left _ hq, h2⟩
    · rw [List.mem_singleton.1 h1]; exact ⟨s, by simp, Int.le_refl _⟩

/-- Cuts: ascending, each once. -/
def Asc (c : List Int) : Prop := ∀ i j, i < j → j < c.length → c.getD i 0 < c.getD j 0
theorem asc_le {c : List Int} (h : Asc c) {i j : Nat} (hij : i ≤ j) (hj : j < c.length) : c.getD i 0 ≤ c.getD j 0 := by
  rcases Nat.lt_or_ge i j with h1 | h1
  · have := h i j h1 hj; omega
  · have : i = j := by omega
    rw [this]; exact Int.le_refl _
theorem mem_at {c : List Int} {a : Int} (h : a ∈ c) : ∃ i, i < c.length ∧ c.getD i 0 = a := by
  obtain ⟨i, hi, e⟩ := List.mem_iff_getElem.1 h
  exact ⟨i, hi, by rw [List.getD_eq_getElem?_getD, List.getElem?_eq_getElem hi]; exact e⟩
theorem cut_lo {c : List Int} (h : Asc c) {a y : Int} (ha : a ∈ c) {k : Nat} (hk : k + 1 < c.length) (h1 : c.getD k 0 ≤ y) (h2 : y < c.getD (k + 1) 0) : a ≤ y ↔ a ≤ c.getD k 0 := by
  obtain ⟨i, hi, rfl⟩ := mem_at ha
  constructor
  · intro h3
    by_cases c1 : i ≤ k
    · exact asc_le h c1 (by omega)
    · have := asc_le h (show k + 1 ≤ i by omega) hi; omega
  · intro h3; omega
theorem cut_hi {c : List Int} (h : Asc c) {b y : Int} (hb : b ∈ c) {k : Nat} (hk : k + 1 < c.length) (h1 : c.getD k 0 ≤ y) (h2 : y < c.getD (k + 1) 0) : y < b ↔ c.getD k 0 < b := by
  obtain ⟨i, hi, rfl⟩ := mem_at hb
  constructor
  · intro h3; omega
  · intro h3
    by_cases c1 : i ≤ k
    · have := asc_le h c1 (by omega); omega
    · have := asc_le h (show k + 1 ≤ i by omega) hi; omega
theorem cut_at {c : List Int} {y : Int} (n : Nat) (h0 : c.getD 0 0 ≤ y) (hn : y < c.getD n 0) : ∃ k, k < n ∧ c.getD k 0 ≤ y ∧ y < c.getD (k + 1) 0 := by
  induction n with
  | zero => omega
  | succ n ih =>
    by_cases h : y < c.getD n 0
    · obtain ⟨k, hk, q⟩ := ih h; exact ⟨k, by omega, q⟩
    · exact ⟨n, by omega, by omega, hn⟩
theorem cut_find {c : List Int} (h : Asc c) {a b y : Int} (ha : a ∈ c) (hb : b ∈ c) (h1 : a ≤ y) (h2 : y < b) : ∃ k, k + 1 < c.length ∧ c.getD k 0 ≤ y ∧ y < c.getD (k + 1) 0 := by
  obtain ⟨i, hi, rfl⟩ := mem_at ha
  obtain ⟨j, hj, rfl⟩ := mem_at hb
  obtain ⟨k, hk, q⟩ := cut_at j (by have := asc_le h (Nat.zero_le i) hi; omega) h2
  exact ⟨k, by omega, q⟩

/-- The bands over the first i cuts. -/
def BuI (c : List Int) (R : Int → Int → Prop) (i : Nat) (B : List Bd) : Prop :=
  Con B ∧ (∀ x y, inBd B x y ↔ ∃ k, k + 1 < i ∧ c.getD k 0 ≤ y ∧ y < c.getD (k + 1) 0 ∧ R (c.getD k 0) x) ∧ ∀ b, B.getLast? = some b → b.2.1 = c.getD (i - 1) 0
theorem BuI.start (c : List Int) (R : Int → Int → Prop) : BuI c R 1 [] :=
  ⟨trivial, fun x y => ⟨fun h => absurd h (inBd_nil _ _), fun ⟨k, hk, _⟩ => absurd hk (by omega)⟩, fun _ h => (by cases h)⟩
theorem inBd_append (l m : List Bd) (x y : Int) : inBd (l ++ m) x y ↔ inBd l x y ∨ inBd m x y := by
  induction l with
  | nil => simp only [List.nil_append]; exact ⟨.inr, fun h => h.elim (fun h => absurd h (inBd_nil _ _)) id⟩
  | cons b l ih => rw [List.cons_append, inBd_cons, inBd_cons, ih, or_assoc]
theorem inBd_one (b : Bd) (x y : Int) : inBd [b] x y ↔ b.1 ≤ y ∧ y < b.2.1 ∧ inSp b.2.2 x := by
  rw [inBd_cons]; exact ⟨fun h => h.elim id (fun h => absurd h (inBd_nil _ _)), .inl⟩
theorem bu_more {c : List Int} {R : Int → Int → Prop} {i : Nat} (hi : 1 ≤ i) (x y : Int) (Q : Prop)
    (hQ : Q ↔ ∃ k, k + 1 < i ∧ c.getD k 0 ≤ y ∧ y < c.getD (k + 1) 0 ∧ R (c.getD k 0) x) :
    (Q ∨ (c.getD (i - 1) 0 ≤ y ∧ y < c.getD i 0 ∧ R (c.getD (i - 1) 0) x)) ↔ ∃ k, k + 1 < i + 1 ∧ c.getD k 0 ≤ y ∧ y < c.getD (k + 1) 0 ∧ R (c.getD k 0) x := by
  rw [hQ]
  constructor
  · rintro (⟨k, hk, h⟩ | h)
    · exact ⟨k, by omega, h⟩
    · exact ⟨i - 1, by omega, by rw [show i - 1 + 1 = i by omega]; exact h⟩
  · rintro ⟨k, hk, h⟩
    by_cases e : k + 1 < i
    · exact .inl ⟨k, e, h⟩
    · have e2 : k = i - 1 := by omega
      subst e2
      rw [show i - 1 + 1 = i by omega] at h
      exact .inr h
theorem BuI.add {c : List Int} {R : Int → Int → Prop} {i : Nat} {B : List Bd} {s : List Sp} (h : BuI c R i B) (hc : Asc c) (h1 : 1 ≤ i) (hi : i < c.length) (hs : Gap s) (hR : ∀ x, inSp s x ↔ R (c.getD (i - 1) 0) x)
    (hd : ∀ b, B.getLast? = some b → b.2.2 ≠ s) : BuI c R (i + 1) (B ++ [(c.getD (i - 1) 0, c.getD i 0, s)]) := by
  refine ⟨con_snoc h.1 (hc _ _ (by omega) hi) hs fun b hb => ⟨h.2.2 b hb, hd b hb⟩, fun x y => ?_, fun b hb => ?_⟩
  · rw [inBd_append, inBd_one, ← bu_more h1 x y _ (h.2.1 x y), hR]
  · simp at hb; rw [← hb]; rfl
theorem BuI.join {c : List Int} {R : Int → Int → Prop} {i : Nat} {B : List Bd} {b : Bd} (h : BuI c R i (B ++ [b])) (hc : Asc c) (h1 : 1 ≤ i) (hi : i < c.length) (hR : ∀ x, inSp b.2.2 x ↔ R (c.getD (i - 1) 0) x) :
    BuI c R (i + 1) (B ++ [(b.1, c.getD i 0, b.2.2)]) := by
  have hl := h.2.2 b (by simp)
  have hlt := hc (i - 1) i (by omega) hi
  refine ⟨con_last h.1 (by omega), fun x y => ?_, fun d hd => by simp at hd; rw [← hd]; rfl⟩
  have hb : b.1 < b.2.1 := by
    have := h.1
    clear hl hlt hR h
    induction B with
    | nil => exact this.1
    | cons a B ih => exact ih this.2.2.2
  rw [inBd_append, inBd_one, ← bu_more h1 x y _ (h.2.1 x y), inBd_append, inBd_one, ← hR]
  constructor
  · rintro (q | ⟨q1, q2, q3⟩)
    · exact .inl (.inl q)
    · by_cases e : y < b.2.1
      · exact .inl (.inr ⟨q1, e, q3⟩)
      · exact .inr ⟨by omega, q2, q3⟩
  · rintro ((q | ⟨q1, q2, q3⟩) | ⟨q1, q2, q3⟩)
    · exact .inl q
    · exact .inr ⟨q1, by simp only; omega, q3⟩
    · exact .inr ⟨by simp only; omega, q2, q3⟩
/-- What is built out of all cuts. -/
theorem BuI.done {c : List Int} {R S : Int → Int → Prop} {B : List Bd} (h : BuI c R c.length B) (hin : ∀ k, k + 1 < c.length → ∀ x y, c.getD k 0 ≤ y → y < c.getD (k + 1) 0 → (S x y ↔ R (c.getD k 0) x))
    (hout : ∀ x y, S x y → ∃ k, k + 1 < c.length ∧ c.getD k 0 ≤ y ∧ y < c.getD (k + 1) 0) : IsCan S (flat B) :=
  isCan_of_con h.1 fun x y => by
    rw [h.2.1 x y]
    constructor
    · rintro ⟨k, hk, h1, h2, h3⟩; exact (hin k hk x y h1 h2).2 h3
    · intro hs
      obtain ⟨k, hk, h1, h2⟩ := hout x y hs
      exact ⟨k, hk, h1, h2, (hin k hk x y h1 h2).1 hs⟩
/-- A row of rectangles. -/
def inRow (l : List Rc) (y x : Int) : Prop := ∃ q ∈ l, q.2.1 ≤ y ∧ y < q.2.2.2 ∧ q.1 ≤ x ∧ x < q.2.2.1
theorem inRow_iff (l : List Rc) (x y : Int) : inRow l y x ↔ inRc l x y :=
  ⟨fun ⟨q, hq, h1, h2, h3, h4⟩ => ⟨q, hq, h3, h4, h1, h2⟩, fun ⟨q, hq, h3, h4, h1, h2⟩ => ⟨q, hq, h1, h2, h3, h4⟩⟩
def Cutting (c : List Int) (l : List Rc) : Prop := ∀ q ∈ l, q.2.1 ∈ c ∧ q.2.2.2 ∈ c
theorem row_const {c : List Int} {l : List Rc} (hc : Asc c) (hl : Cutting c l) {k : Nat} (hk : k + 1 < c.length) {x y : Int} (h1 : c.getD k 0 ≤ y) (h2 : y < c.getD (k + 1) 0) : inRc l x y ↔ inRow l (c.getD k 0) x := by
  rw [← inRow_iff]
  constructor
  · rintro ⟨q, hq, a, b, r⟩
    exact ⟨q, hq, (cut_lo hc (hl q hq).1 hk h1 h2).1 a, (cut_hi hc (hl q hq).2 hk h1 h2).1 b, r⟩
  · rintro ⟨q, hq, a, b, r⟩
    exact ⟨q, hq, (cut_lo hc (hl q hq).1 hk h1 h2).2 a, (cut_hi hc (hl q hq).2 hk h1 h2).2 b, r⟩
theorem row_out {c : List Int} {l : List Rc} (hc : Asc c) (hl : Cutting c l) {x y : Int} (h : inRc l x y) : ∃ k, k + 1 < c.length ∧ c.getD k 0 ≤ y ∧ y < c.getD (k + 1) 0 := by
  obtain ⟨q, hq, _, _, a, b⟩ := h
  exact cut_find hc (hl q hq).1 (hl q hq).2 a b
end Go.Proofs.YtglhenobodndjaaGreatDoor
