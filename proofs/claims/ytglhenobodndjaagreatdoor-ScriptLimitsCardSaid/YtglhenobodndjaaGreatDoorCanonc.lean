/- Regions, in plain Lean: a row chosen between edges; the two ways of making bands. -/
import Derived.Test.YtglhenobodndjaaGreatDoorCanonb
namespace Go.Proofs.YtglhenobodndjaaGreatDoor

/-- The spans over the first i edges. -/
def SpI (c : List Int) (K : Int → Prop) (i : Nat) (s : List Sp) : Prop :=
  Gap s ∧ (∀ x, inSp s x ↔ ∃ k, k + 1 < i ∧ c.getD k 0 ≤ x ∧ x < c.getD (k + 1) 0 ∧ K (c.getD k 0)) ∧ ∀ t, s.getLast? = some t → t.2 ≤ c.getD (i - 1) 0
theorem SpI.start (c : List Int) (K : Int → Prop) {i : Nat} (hi : i ≤ 1) : SpI c K i [] :=
  ⟨trivial, fun x => ⟨fun h => absurd h (inSp_nil _), fun ⟨k, hk, _⟩ => absurd hk (by omega)⟩, fun _ h => (by cases h)⟩
theorem sp_more {c : List Int} {K : Int → Prop} {i : Nat} (hi : 1 ≤ i) (x : Int) (Q : Prop) (hQ : Q ↔ ∃ k, k + 1 < i ∧ c.getD k 0 ≤ x ∧ x < c.getD (k + 1) 0 ∧ K (c.getD k 0)) :
    (Q ∨ (c.getD (i - 1) 0 ≤ x ∧ x < c.getD i 0 ∧ K (c.getD (i - 1) 0))) ↔ ∃ k, k + 1 < i + 1 ∧ c.getD k 0 ≤ x ∧ x < c.getD (k + 1) 0 ∧ K (c.getD k 0) := by
  rw [hQ]
  constructor
  · rintro (⟨k, hk, h⟩ | h)
    · exact ⟨k, by omega, h⟩
    · exact ⟨i - 1, by omega, by rw [show i - 1 + 1 = i by omega]; exact h⟩
  · rintro ⟨k, hk, h⟩
    by_cases e : k + 1 < i
    · exact .inl ⟨k, e, h⟩
    · have e2 : k = i - 1 := by omega
      subst e2
      rw [show i - 1 + 1 = i by omega] at h
      exact .inr h
theorem gap_all_lt {o : List Sp} {t : Sp} {m : Int} (h : Gap (o ++ [t])) (ht : t.2 < m) : ∀ s ∈ o ++ [t], s.2 < m := fun s hs => by
  rcases List.mem_append.1 hs with h1 | h1
  · have := gap_lt_last h s h1; have := gap_end h; omega
  · rw [List.mem_singleton.1 h1]; exact ht
theorem SpI.skip {c : List Int} {K : Int → Prop} {i : Nat} {s : List Sp} (h : SpI c K i s) (hc : Asc c) (h1 : 1 ≤ i) (hi : i < c.length) (hK : ¬ K (c.getD (i - 1) 0)) : SpI c K (i + 1) s := by
  refine ⟨h.1, fun x => ?_, fun t ht => ?_⟩
  · rw [← sp_more h1 x _ (h.2.1 x)]
    exact ⟨.inl, fun q => q.elim id fun q => absurd q.2.2 hK⟩
  · have := h.2.2 t ht; have := hc (i - 1) i (by omega) hi; show t.2 ≤ c.getD i 0; omega
theorem SpI.add {c : List Int} {K : Int → Prop} {i : Nat} {s : List Sp} (h : SpI c K i s) (hc : Asc c) (h1 : 1 ≤ i) (hi : i < c.length) (hK : K (c.getD (i - 1) 0)) (hn : ∀ t, s.getLast? = some t → t.2 ≠ c.getD (i - 1) 0) : SpI c K (i + 1) (s ++ [(c.getD (i - 1) 0, c.getD i 0)]) := by
  refine ⟨gap_snoc h.1 (hc _ _ (by omega) hi) fun t ht => ?_, fun x => ?_, fun t ht => by simp at ht; rw [← ht]; exact Int.le_refl _⟩
  · rcases List.eq_nil_or_concat s with e | ⟨o, u, e⟩
    · rw [e] at ht; cases ht
    · rw [List.concat_eq_append] at e
      subst e
      have q1 := h.2.2 u (by simp); have q2 := hn u (by simp)
      exact gap_all_lt h.1 (show u.2 < c.getD (i - 1) 0 by omega) t ht
  · rw [inSp_append, inSp_one, ← sp_more h1 x _ (h.2.1 x)]
    exact ⟨fun q => q.elim .inl fun q => .inr ⟨q.1, q.2, hK⟩, fun q => q.elim .inl fun q => .inr ⟨q.1, q.2.1⟩⟩
theorem SpI.join {c : List Int} {K : Int → Prop} {i : Nat} {o : List Sp} {u : Sp} (h : SpI c K i (o ++ [u])) (hc : Asc c) (h1 : 1 ≤ i) (hi : i < c.length) (hK : K (c.getD (i - 1) 0)) (hu : u.2 = c.getD (i - 1) 0) : SpI c K (i + 1) (o ++ [(u.1, c.getD i 0)]) := by
  have hlt := hc (i - 1) i (by omega) hi
  have hul := gap_end h.1
  refine ⟨gap_last h.1 (by omega), fun x => ?_, fun t ht => by simp at ht; rw [← ht]; exact Int.le_refl _⟩
  rw [inSp_append, inSp_one, ← sp_more h1 x _ (h.2.1 x), inSp_append, inSp_one]
  constructor
  · rintro (q | ⟨q1, q2⟩)
    · exact .inl (.inl q)
    · by_cases e : x < u.2
      · exact .inl (.inr ⟨q1, e⟩)
      · exact .inr ⟨by omega, q2, hK⟩
  · rintro ((q | ⟨q1, q2⟩) | ⟨q1, q2, _⟩)
    · exact .inl q
    · exact .inr ⟨q1, by simp only; omega⟩
    · exact .inr ⟨by simp only; omega, q2⟩
theorem SpI.done {c : List Int} {K S : Int → Prop} {s : List Sp} (h : SpI c K c.length s) (hin : ∀ k, k + 1 < c.length → ∀ x, c.getD k 0 ≤ x → x < c.getD (k + 1) 0 → (S x ↔ K (c.getD k 0)))
    (hout : ∀ x, S x → ∃ k, k + 1 < c.length ∧ c.getD k 0 ≤ x ∧ x < c.getD (k + 1) 0) : Gap s ∧ ∀ x, inSp s x ↔ S x :=
  ⟨h.1, fun x => by
    rw [h.2.1 x]
    constructor
    · rintro ⟨k, hk, h1, h2, h3⟩; exact (hin k hk x h1 h2).2 h3
    · intro hs
      obtain ⟨k, hk, h1, h2⟩ := hout x hs
      exact ⟨k, hk, h1, h2, (hin k hk x h1 h2).1 hs⟩⟩
/-- Spans whose ends are among the edges: nothing turns between two edges. -/
def Edging (c : List Int) (l : List Sp) : Prop := ∀ s ∈ l, s.1 ∈ c ∧ s.2 ∈ c
theorem sp_const {c : List Int} {l : List Sp} (hc : Asc c) (hl : Edging c l) {k : Nat} (hk : k + 1 < c.length) {x : Int} (h1 : c.getD k 0 ≤ x) (h2 : x < c.getD (k + 1) 0) : inSp l x ↔ inSp l (c.getD k 0) := by
  constructor
  · rintro ⟨s, hs, a, b⟩; exact ⟨s, hs, (cut_lo hc (hl s hs).1 hk h1 h2).1 a, (cut_hi hc (hl s hs).2 hk h1 h2).1 b⟩
  · rintro ⟨s, hs, a, b⟩; exact ⟨s, hs, (cut_lo hc (hl s hs).1 hk h1 h2).2 a, (cut_hi hc (hl s hs).2 hk h1 h2).2 b⟩
theorem sp_out {c : List Int} {l : List Sp} (hc : Asc c) (hl : Edging c l) {x : Int} (h : inSp l x) : ∃ k, k + 1 < c.length ∧ c.getD k 0 ≤ x ∧ x < c.getD (k + 1) 0 := by
  obtain ⟨s, hs, a, b⟩ := h; exact cut_find hc (hl s hs).1 (hl s hs).2 a b
/-- A row of rectangles between edges. -/
def Siding (c : List Int) (l : List Rc) : Prop := ∀ q ∈ l, q.1 ∈ c ∧ q.2.2.1 ∈ c
theorem side_const {c : List Int} {l : List Rc} (hc : Asc c) (hl : Siding c l) {k : Nat} (hk : k + 1 < c.length) {x y : Int} (h1 : c.getD k 0 ≤ x) (h2 : x < c.getD (k + 1) 0) : inRc l x y ↔ inRc l (c.getD k 0) y := by
  constructor
  · rintro ⟨q, hq, a, b, r⟩; exact ⟨q, hq, (cut_lo hc (hl q hq).1 hk h1 h2).1 a, (cut_hi hc (hl q hq).2 hk h1 h2).1 b, r⟩
  · rintro ⟨q, hq, a, b, r⟩; exact ⟨q, hq, (cut_lo hc (hl q hq).1 hk h1 h2).2 a, (cut_hi hc (hl q hq).2 hk h1 h2).2 b, r⟩
theorem side_out {c : List Int} {l : List Rc} (hc : Asc c) (hl : Siding c l) {x y : Int} (h : inRc l x y) : ∃ k, k + 1 < c.length ∧ c.getD k 0 ≤ x ∧ x < c.getD (k + 1) 0 := by
  obtain ⟨q, hq, a, b, _⟩ := h; exact cut_find hc (hl q hq).1 (hl q hq).2 a b

/-- What the reference keeps: bands that are done, and the last one. -/
def CoI (c : List Int) (R : Int → Int → Prop) (i : Nat) (out last : List Rc) : Prop :=
  (i ≤ 1 ∧ out = [] ∧ last = [] ∧ BuI c R 1 []) ∨ ∃ B b, BuI c R i (B ++ [b]) ∧ out = flat B ∧ last = flat [b]
theorem flat_append (l m : List Bd) : flat (l ++ m) = flat l ++ flat m := by unfold flat; rw [List.flatMap_append]
theorem flat_one (b : Bd) : flat [b] = b.2.2.map fun s => (s.1, b.1, s.2, b.2.1) := by unfold flat; simp
theorem CoI.add {c : List Int} {R : Int → Int → Prop} {i : Nat} {out last : List Rc} {s : List Sp} (h : CoI c R i out last) (hc : Asc c) (h1 : 1 ≤ i) (hi : i < c.length) (hs : Gap s) (hR : ∀ x, inSp s x ↔ R (c.getD (i - 1) 0) x)
    (hd : last ≠ [] → last.map (fun q => (q.1, q.2.2.1)) ≠ s) : CoI c R (i + 1) (out ++ last) (flat [(c.getD (i - 1) 0, c.getD i 0, s)]) := by
  rcases h with ⟨h0, rfl, rfl, hB⟩ | ⟨B, b, hB, rfl, rfl⟩
  · have e : i = 1 := by omega
    subst e
    exact .inr ⟨[], _, by have := hB.add hc h1 hi hs hR (fun _ h => by cases h); simpa using this, rfl, rfl⟩
  · by_cases hb : b.2.2 = []
    · by_cases hs0 : s = []
      · subst hs0
        have := hB.join hc h1 hi (by rw [hb]; exact hR)
        refine .inr ⟨B, _, this, ?_, ?_⟩
        · rw [flat_one, hb]; simp
        · rw [flat_one, flat_one, hb]; rfl
      · refine .inr ⟨B ++ [b], _, hB.add hc h1 hi hs hR fun d hd => ?_, by rw [flat_append], rfl⟩
        simp at hd; subst hd; rw [hb]; exact fun e => hs0 e.symm
    · refine .inr ⟨B ++ [b], _, hB.add hc h1 hi hs hR fun d hd' => ?_, by rw [flat_append], rfl⟩
      simp at hd'; subst hd'
      have := hd (by rw [flat_one]; simpa using hb)
      intro e
      apply this
      rw [flat_one, List.map_map, ← e]
      exact (List.map_congr_left (fun _ _ => rfl)).trans (List.map_id _)
theorem CoI.join {c : List Int} {R : Int → Int → Prop} {i : Nat} {out last : List Rc} {s : List Sp} (h : CoI c R i out last) (hc : Asc c) (h1 : 1 ≤ i) (hi : i < c.length) (hR : ∀ x, inSp s x ↔ R (c.getD (i - 1) 0) x)
    (hl : last ≠ []) (hd : last.map (fun q => (q.1, q.2.2.1)) = s) : CoI c R (i + 1) out (last.map fun q => (q.1, q.2.1, q.2.2.1, c.getD i 0)) := by
  rcases h with ⟨h0, rfl, rfl, hB⟩ | ⟨B, b, hB, rfl, rfl⟩
  · exact absurd rfl hl
  · have e : b.2.2 = s := by
      rw [flat_one, List.map_map] at hd
      rw [← hd]
      exact ((List.map_congr_left (fun _ _ => rfl)).trans (List.map_id _)).symm
    refine .inr ⟨B, _, hB.join hc h1 hi (by rw [e]; exact hR), rfl, ?_⟩
    rw [flat_one, flat_one, List.map_map]
    rfl
theorem CoI.done {c : List Int} {R S : Int → Int → Prop} {out last : List Rc} {i : Nat} (h : CoI c R i out last) (hi : i = c.length ∨ (i ≤ 1 ∧ c.length ≤ 1)) (hin : ∀ k, k + 1 < c.length → ∀ x y, c.getD k 0 ≤ y → y < c.getD (k + 1) 0 → (S x y ↔ R (c.getD k 0) x))
    (hout : ∀ x y, S x y → ∃ k, k + 1 < c.length ∧ c.getD k 0 ≤ y ∧ y < c.getD (k + 1) 0) : IsCan S (out ++ last) := by
  have hempty : c.length ≤ 1 → IsCan S [] := fun h0 => ⟨[], trivial, rfl, fun x y => ⟨fun h => absurd h (inBd_nil _ _), fun h => by obtain ⟨k, hk, _⟩ := hout x y h; omega⟩⟩
  rcases h with ⟨h0, rfl, rfl, hB⟩ | ⟨B, b, hB, rfl, rfl⟩
  · exact hempty (by omega)
  · rw [← flat_append]
    rcases hi with rfl | ⟨h1, h2⟩
    · exact hB.done hin hout
    · refine isCan_of_con hB.1 fun x y => ?_
      rw [hB.2.1 x y]
      constructor
      · rintro ⟨k, hk, _⟩; omega
      · intro h; obtain ⟨k, hk, _⟩ := hout x y h; omega
end Go.Proofs.YtglhenobodndjaaGreatDoor
