/- Regions, in plain Lean: rectangles in canonical order are determined by their squares. -/
import Derived.WalkKit
namespace Go.Proofs.YtglhenobodndjaaGreatDoor

/-- A span: Left, Right. -/
abbrev Sp := Int × Int
/-- A rectangle: Left, Low, Right, High. -/
abbrev Rc := Int × Int × Int × Int
/-- A band: low, high, spans. -/
abbrev Bd := Int × Int × List Sp
def inSp (l : List Sp) (x : Int) : Prop := ∃ s ∈ l, s.1 ≤ x ∧ x < s.2
def inRc (l : List Rc) (x y : Int) : Prop := ∃ q ∈ l, q.1 ≤ x ∧ x < q.2.2.1 ∧ q.2.1 ≤ y ∧ y < q.2.2.2
def inBd (l : List Bd) (x y : Int) : Prop := ∃ b ∈ l, b.1 ≤ y ∧ y < b.2.1 ∧ inSp b.2.2 x
/-- Spans with gaps between them, ascending. -/
def Gap : List Sp → Prop
  | [] => True
  | s :: l => s.1 < s.2 ∧ (∀ t ∈ l, s.2 < t.1) ∧ Gap l
theorem inSp_nil (x : Int) : ¬ inSp [] x := fun ⟨_, h, _⟩ => by cases h
theorem inSp_cons (s : Sp) (l : List Sp) (x : Int) : inSp (s :: l) x ↔ (s.1 ≤ x ∧ x < s.2) ∨ inSp l x := by
  unfold inSp; simp
theorem inSp_append (l m : List Sp) (x : Int) : inSp (l ++ m) x ↔ inSp l x ∨ inSp m x := by
  unfold inSp; constructor
  · rintro ⟨s, hs, h⟩
    rcases List.mem_append.1 hs with h1 | h1
    · exact .inl ⟨s, h1, h⟩
    · exact .inr ⟨s, h1, h⟩
  · rintro (⟨s, hs, h⟩ | ⟨s, hs, h⟩)
    · exact ⟨s, List.mem_append_left _ hs, h⟩
    · exact ⟨s, List.mem_append_right _ hs, h⟩
theorem Gap.lt {l : List Sp} (h : Gap l) : ∀ s ∈ l, s.1 < s.2 := by
  induction l with
  | nil => intro s hs; cases hs
  | cons a l ih =>
    intro s hs
    rcases List.mem_cons.1 hs with rfl | h1
    · exact h.1
    · exact ih h.2.2 s h1
theorem Gap.first {s : Sp} {l : List Sp} (h : Gap (s :: l)) {x : Int} (hx : inSp (s :: l) x) : s.1 ≤ x := by
  rcases (inSp_cons _ _ _).1 hx with h1 | ⟨t, ht, h1⟩
  · exact h1.1
  · have := h.2.1 t ht; have := h.1; omega
theorem Gap.behind {s : Sp} {l : List Sp} (h : Gap (s :: l)) {x : Int} (hx : inSp l x) : s.2 < x := by
  obtain ⟨t, ht, h1⟩ := hx
  have := h.2.1 t ht; omega
theorem gap_uniq {a b : List Sp} (ha : Gap a) (hb : Gap b) (h : ∀ x, inSp a x ↔ inSp b x) : a = b := by
  induction a generalizing b with
  | nil =>
    cases b with
    | nil => rfl
    | cons t b => exact absurd ((h t.1).2 ((inSp_cons _ _ _).2 (.inl ⟨Int.le_refl _, hb.1⟩))) (inSp_nil _)
  | cons s a ih =>
    cases b with
    | nil => exact absurd ((h s.1).1 ((inSp_cons _ _ _).2 (.inl ⟨Int.le_refl _, ha.1⟩))) (inSp_nil _)
    | cons t b =>
      have h1 : s.1 = t.1 := by
        have q1 := hb.first ((h s.1).1 ((inSp_cons _ _ _).2 (.inl ⟨Int.le_refl _, ha.1⟩)))
        have q2 := ha.first ((h t.1).2 ((inSp_cons _ _ _).2 (.inl ⟨Int.le_refl _, hb.1⟩)))
        omega
      have h2 : s.2 = t.2 := by
        rcases Int.lt_trichotomy s.2 t.2 with c | c | c
        · have q := (h s.2).2 ((inSp_cons _ _ _).2 (.inl ⟨by have := ha.1; omega, c⟩))
          rcases (inSp_cons _ _ _).1 q with q | q
          · omega
          · have := ha.behind q; omega
        · exact c
        · have q := (h t.2).1 ((inSp_cons _ _ _).2 (.inl ⟨by have := hb.1; omega, c⟩))
          rcases (inSp_cons _ _ _).1 q with q | q
          · omega
          · have := hb.behind q; omega
      have e : s = t := Prod.ext h1 h2
      subst e
      rw [ih ha.2.2 hb.2.2 fun x => ?_]
      constructor
      · intro q
        have q1 := ha.behind q
        rcases (inSp_cons _ _ _).1 ((h x).1 ((inSp_cons _ _ _).2 (.inr q))) with q2 | q2
        · omega
        · exact q2
      · intro q
        have q1 := hb.behind q
        rcases (inSp_cons _ _ _).1 ((h x).2 ((inSp_cons _ _ _).2 (.inr q))) with q2 | q2
        · omega
        · exact q2
theorem gap_snoc {l : List Sp} {t : Sp} (h : Gap l) (ht : t.1 < t.2) (hl : ∀ s ∈ l, s.2 < t.1) : Gap (l ++ [t]) := by
  induction l with
  | nil => exact ⟨ht, fun _ h => (by cases h), trivial⟩
  | cons s l ih =>
    refine ⟨h.1, fun u hu => ?_, ih h.2.2 fun u hu => hl u (List.mem_cons_of_mem _ hu)⟩
    rcases List.mem_append.1 hu with h1 | h1
    · exact h.2.1 u h1
    · rw [List.mem_singleton.1 h1]; exact hl s (List.mem_cons_self ..)
theorem gap_last {l : List Sp} {s : Sp} {r : Int} (h : Gap (l ++ [s])) (hr : s.2 ≤ r) : Gap (l ++ [(s.1, r)]) := by
  induction l with
  | nil => exact ⟨by have := h.1; show s.1 < r; omega, fun _ h => (by cases h), trivial⟩
  | cons u l ih =>
    refine ⟨h.1, fun v hv => ?_, ih h.2.2⟩
    rcases List.mem_append.1 hv with h1 | h1
    · exact h.2.1 v (List.mem_append_left _ h1)
    · rw [List.mem_singleton.1 h1]; exact h.2.1 s (List.mem_append_right _ (List.mem_singleton.2 rfl))
theorem gap_front {l m : List Sp} (h : Gap (l ++ m)) : Gap l := by
  induction l with
  | nil => trivial
  | cons s l ih => exact ⟨h.1, fun t ht => h.2.1 t (List.mem_append_left _ ht), ih h.2.2⟩
theorem gap_lt_last {l : List Sp} {s : Sp} (h : Gap (l ++ [s])) : ∀ t ∈ l, t.2 < s.1 := by
  induction l with
  | nil => intro t ht; cases ht
  | cons u l ih =>
    intro t ht
    rcases List.mem_cons.1 ht with rfl | h1
    · exact h.2.1 s (List.mem_append_right _ (List.mem_singleton.2 rfl))
    · exact ih h.2.2 t h1
theorem gap_end {l : List Sp} {s : Sp} (h : Gap (l ++ [s])) : s.1 < s.2 := h.lt s (List.mem_append_right _ (List.mem_singleton.2 rfl))

/-- Bands in canonical order. -/
def Can : List Bd → Prop
  | [] => True
  | b :: l => b.1 < b.2.1 ∧ b.2.2 ≠ [] ∧ Gap b.2.2 ∧ (∀ c ∈ l, b.2.1 ≤ c.1) ∧ (∀ c, l.head? = some c → b.2.1 = c.1 → b.2.2 ≠ c.2.2) ∧ Can l
theorem inBd_cons (b : Bd) (l : List Bd) (x y : Int) : inBd (b :: l) x y ↔ (b.1 ≤ y ∧ y < b.2.1 ∧ inSp b.2.2 x) ∨ inBd l x y := by
  unfold inBd; simp
theorem inBd_nil (x y : Int) : ¬ inBd [] x y := fun ⟨_, h, _⟩ => by cases h
theorem gap_mem {l : List Sp} (h : Gap l) (hn : l ≠ []) : ∃ x, inSp l x := by
  cases l with
  | nil => exact absurd rfl hn
  | cons s l => exact ⟨s.1, (inSp_cons _ _ _).2 (.inl ⟨Int.le_refl _, h.1⟩)⟩
theorem Can.first {b : Bd} {l : List Bd} (h : Can (b :: l)) {x y : Int} (hx : inBd (b :: l) x y) : b.1 ≤ y := by
  rcases (inBd_cons _ _ _ _).1 hx with h1 | ⟨c, hc, h1⟩
  · exact h1.1
  · have := h.2.2.2.1 c hc; have := h.1; omega
theorem Can.behind {b : Bd} {l : List Bd} (h : Can (b :: l)) {x y : Int} (hx : inBd l x y) : b.2.1 ≤ y := by
  obtain ⟨c, hc, h1⟩ := hx
  have := h.2.2.2.1 c hc; omega
theorem Can.row {b : Bd} {l : List Bd} (h : Can (b :: l)) {x y : Int} (h1 : b.1 ≤ y) (h2 : y < b.2.1) : inBd (b :: l) x y ↔ inSp b.2.2 x := by
  rw [inBd_cons]
  constructor
  · rintro (q | q)
    · exact q.2.2
    · have := h.behind q; omega
  · exact fun q => .inl ⟨h1, h2, q⟩
theorem can_high {b c : Bd} {l m : List Bd} (hb : Can (b :: l)) (hc : Can (c :: m)) (h1 : b.1 = c.1) (h2 : b.2.2 = c.2.2) (h : ∀ x y, inBd (b :: l) x y ↔ inBd (c :: m) x y) : ¬ b.2.1 < c.2.1 := by
  intro hlt
  have hrow : ∀ x, inBd l x b.2.1 ↔ inSp c.2.2 x := fun x => by
    rw [← hc.row (x := x) (y := b.2.1) (by have := hb.1; omega) hlt, ← h, inBd_cons]
    constructor
    · exact .inr
    · rintro (q | q)
      · omega
      · exact q
  obtain ⟨x, hx⟩ := gap_mem hc.2.2.1 hc.2.1
  have hx1 := (hrow x).2 hx
  cases l with
  | nil => exact inBd_nil _ _ hx1
  | cons d l =>
    have hd := hb.2.2.2.2.2
    have h3 := hd.first hx1
    have h4 := hb.2.2.2.1 d (List.mem_cons_self ..)
    have h5 : b.2.1 = d.1 := by omega
    refine hb.2.2.2.2.1 d rfl h5 ?_
    rw [h2]
    refine (gap_uniq hd.2.2.1 hc.2.2.1 fun x => ?_).symm
    rw [← hrow x, hd.row (by omega) (by have := hd.1; omega)]
theorem can_uniq {a b : List Bd} (ha : Can a) (hb : Can b) (h : ∀ x y, inBd a x y ↔ inBd b x y) : a = b := by
  induction a generalizing b with
  | nil =>
    cases b with
    | nil => rfl
    | cons c b =>
      obtain ⟨x, hx⟩ := gap_mem hb.2.2.1 hb.2.1
      exact absurd ((h x c.1).2 ((inBd_cons _ _ _ _).2 (.inl ⟨Int.le_refl _, hb.1, hx⟩))) (inBd_nil _ _)
  | cons c a ih =>
    cases b with
    | nil =>
      obtain ⟨x, hx⟩ := gap_mem ha.2.2.1 ha.2.1
      exact absurd ((h x c.1).1 ((inBd_cons _ _ _ _).2 (.inl ⟨Int.le_refl _, ha.1, hx⟩))) (inBd_nil _ _)
    | cons d b =>
      have h1 : c.1 = d.1 := by
        obtain ⟨x, hx⟩ := gap_mem ha.2.2.1 ha.2.1
        obtain ⟨y, hy⟩ := gap_mem hb.2.2.1 hb.2.1
        have q1 := hb.first ((h x c.1).1 ((inBd_cons _ _ _ _).2 (.inl ⟨Int.le_refl _, ha.1, hx⟩)))
        have q2 := ha.first ((h y d.1).2 ((inBd_cons _ _ _ _).2 (.inl ⟨Int.le_refl _, hb.1, hy⟩)))
        omega
      have h2 : c.2.2 = d.2.2 := gap_uniq ha.2.2.1 hb.2.2.1 fun x => by
        rw [← ha.row (x := x) (Int.le_refl _) ha.1, ← hb.row (x := x) (y := c.1) (by omega) (by have := hb.1; omega), h]
      have h3 : c.2.1 = d.2.1 := by
        have q1 := can_high ha hb h1 h2 h
        have q2 := can_high hb ha h1.symm h2.symm fun x y => (h x y).symm
        omega
      have e : c = d := Prod.ext h1 (Prod.ext h3 h2)
      subst e
      rw [ih ha.2.2.2.2.2 hb.2.2.2.2.2 fun x y => ?_]
      constructor
      · intro q
        have q1 := ha.behind q
        rcases (inBd_cons _ _ _ _).1 ((h x y).1 ((inBd_cons _ _ _ _).2 (.inr q))) with q2 | q2
        · omega
        · exact q2
      · intro q
        have q1 := hb.behind q
        rcases (inBd_cons _ _ _ _).1 ((h x y).2 ((inBd_cons _ _ _ _).2 (.inr q))) with q2 | q2
        · omega
        · exact q2

/-- Bands as rectangles. -/
def flat (l : List Bd) : List Rc := l.flatMap fun b => b.2.2.map fun s => (s.1, b.1, s.2, b.2.1)
theorem inRc_flat (l : List Bd) (x y : Int) : inRc (flat l) x y ↔ inBd l x y := by
  unfold inRc flat inBd inSp
  constructor
  · rintro ⟨q, hq, h⟩
    obtain ⟨b, hb, h1⟩ := List.mem_flatMap.1 hq
    obtain ⟨s, hs, rfl⟩ := List.mem_map.1 h1
    exact ⟨b, hb, h.2.2.1, h.2.2.2, s, hs, h.1, h.2.1⟩
  · rintro ⟨b, hb, h1, h2, s, hs, h3, h4⟩
    exact ⟨_, List.mem_flatMap.2 ⟨b, hb, List.mem_map.2 ⟨s, hs, rfl⟩⟩, h3, h4, h1, h2⟩
/-- The canonical rectangles of a set of squares. -/
def IsCan (S : Int → Int → Prop) (r : List Rc) : Prop := ∃ B, Can B ∧ r = flat B ∧ ∀ x y, inBd B x y ↔ S x y
theorem IsCan.uniq {S : Int → Int → Prop} {r r' : List Rc} (h : IsCan S r) (h' : IsCan S r') : r = r' := by
  obtain ⟨B, h1, rfl, h2⟩ := h
  obtain ⟨C, h3, rfl, h4⟩ := h'
  rw [can_uniq h1 h3 fun x y => (h2 x y).trans (h4 x y).symm]
theorem IsCan.iff {S : Int → Int → Prop} {r : List Rc} (h : IsCan S r) (x y : Int) : inRc r x y ↔ S x y := by
  obtain ⟨B, _, rfl, h2⟩ := h; rw [inRc_flat]; exact h2 x y
theorem IsCan.congr {S T : Int → Int → Prop} {r : List Rc} (h : IsCan S r) (e : ∀ x y, S x y ↔ T x y) : IsCan T r := by
  obtain ⟨B, h1, rfl, h2⟩ := h; exact ⟨B, h1, rfl, fun x y => (h2 x y).trans (e x y)⟩
theorem IsCan.self {S : Int → Int → Prop} {r : List Rc} (h : IsCan S r) : IsCan (inRc r) r := h.congr fun x y => (h.iff x y).symm

/-- Bands one upon the other, empty ones among them. -/
def Con : List Bd → Prop
  | [] => True
  | b :: l => b.1 < b.2.1 ∧ Gap b.2.2 ∧ (∀ c, l.head? = some c → b.2.1 = c.1 ∧ b.2.2 ≠ c.2.2) ∧ Con l
def full (b : Bd) : Bool := !b.2.2.isEmpty
theorem flat_full (l : List Bd) : flat (l.filter full) = flat l := by
  induction l with
  | nil => rfl
  | cons b l ih =>
    rw [List.filter_cons]
    unfold flat at ih ⊢
    split
    · rw [List.flatMap_cons, List.flatMap_cons, ih]
    · next h =>
      have : b.2.2 = [] := by simpa [full] using h
      rw [List.flatMap_cons, ih, this]; rfl
theorem inBd_full (l : List Bd) (x y : Int) : inBd (l.filter full) x y ↔ inBd l x y := by
  rw [← inRc_flat, flat_full, inRc_flat]
theorem Con.above {b : Bd} {l : List Bd} (h : Con (b :: l)) : ∀ c ∈ l, b.2.1 ≤ c.1 := by
  induction l generalizing b with
  | nil => intro c hc; cases hc
  | cons d l ih =>
    intro c hc
    have h1 := (h.2.2.1 d rfl).1
    rcases List.mem_cons.1 hc with rfl | h2
    · omega
    · have := ih h.2.2.2 c h2; have := h.2.2.2.1; omega
theorem Con.can {l : List Bd} (h : Con l) : Can (l.filter full) := by
  induction l with
  | nil => trivial
  | cons b l ih =>
    have hi := ih h.2.2.2
    rw [List.filter_cons]
    split
    · next hb =>
      refine ⟨h.1, by simpa [full] using hb, h.2.1, fun c hc => h.above c (List.mem_filter.1 hc).1, fun c hc e => ?_, hi⟩
      cases l with
      | nil => cases hc
      | cons d l =>
        rw [List.filter_cons] at hc
        split at hc
        · simp at hc; subst hc; exact (h.2.2.1 d rfl).2
        · have hm : c ∈ l := (List.mem_filter.1 (List.mem_of_head? hc)).1
          have h1 := h.2.2.2.above c hm
          have h2 := h.2.2.2.1
          have h3 := (h.2.2.1 d rfl).1
          omega
    · exact hi
theorem con_snoc {l : List Bd} {b : Bd} (h : Con l) (h1 : b.1 < b.2.1) (h2 : Gap b.2.2) (h3 : ∀ c, l.getLast? = some c → c.2.1 = b.1 ∧ c.2.2 ≠ b.2.2) : Con (l ++ [b]) := by
  induction l with
  | nil => exact ⟨h1, h2, fun _ h => (by simp at h), trivial⟩
  | cons a l ih =>
    refine ⟨h.1, h.2.1, fun c hc => ?_, ih h.2.2.2 fun c hc => h3 c ?_⟩
    · cases l with
      | nil => simp at hc; subst hc; exact h3 a rfl
      | cons d l => exact h.2.2.1 c (by simpa using hc)
    · cases l with
      | nil => cases hc
      | cons d l => rw [List.getLast?_cons_cons]; exact hc
theorem con_last {l : List Bd} {b : Bd} {t : Int} (h : Con (l ++ [b])) (ht : b.2.1 ≤ t) : Con (l ++ [(b.1, t, b.2.2)]) := by
  induction l with
  | nil => exact ⟨by have := h.1; show b.1 < t; omega, h.2.1, fun _ h => (by simp at h), trivial⟩
  | cons a l ih =>
    refine ⟨h.1, h.2.1, fun c hc => ?_, ih h.2.2.2⟩
    cases l with
    | nil => simp at hc; subst hc; exact h.2.2.1 b rfl
    | cons d l => exact h.2.2.1 c (by simpa using hc)
theorem isCan_of_con {l : List Bd} (h : Con l) {S : Int → Int → Prop} (hS : ∀ x y, inBd l x y ↔ S x y) : IsCan S (flat l) :=
  ⟨_, h.can, (flat_full l).symm, fun x y => (inBd_full l x y).trans (hS x y)⟩
end Go.Proofs.YtglhenobodndjaaGreatDoor
