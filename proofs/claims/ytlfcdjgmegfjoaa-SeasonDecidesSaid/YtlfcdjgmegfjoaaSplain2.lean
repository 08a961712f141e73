/- The season layer's plain laws, more: mirrored phases, and another observation of the same curve. -/
import Derived.Test.YtlfcdjgmegfjoaaSlaw3
namespace Go.Proofs.Ytlfcdjgmegfjoaa
open Go.RowKit Go.Shelf
set_option linter.unusedVariables false

/-! Mirrored. -/
def mir (l : List (Int × Int)) : List (Int × Int) := l.map fun o => (o.1, 1000 - o.2)
theorem mir_length (l : List (Int × Int)) : (mir l).length = l.length := by simp [mir]
theorem mir_snoc (l : List (Int × Int)) (o : Int × Int) : mir (l ++ [o]) = mir l ++ [(o.1, 1000 - o.2)] := by simp [mir]
theorem ob_mir {l : List (Int × Int)} {j : Nat} (h : j < l.length) : ob (mir l) j = ((ob l j).1, 1000 - (ob l j).2) := by simp [ob, mir, h]
theorem right_mir {s : Int} {l : List (Int × Int)} (h : chkS s l = 0) : chkS s (mir l) = 0 := by
  obtain ⟨h1, h2, h3, h4⟩ := right_lim h
  refine chkS_of h1 h2 (by rw [mir_length]; exact h3) ?_
  rw [mir_length, ← h4]
  refine chkUp_congr fun j hj => ?_
  unfold errAt
  rw [ob_mir hj, ob_mir (show j - 1 < l.length by omega)]
  have e1 : greenOK (1000 - (ob l j).2) ↔ greenOK (ob l j).2 := by unfold greenOK; omega
  have e2 : dist (1000 - (ob l j).2) (1000 - (ob l (j - 1)).2) = dist (ob l j).2 (ob l (j - 1)).2 := by unfold dist; omega
  simp only [e1, e2]
theorem low_mir {s : Int} {l : List (Int × Int)} (d : Int) (n : Nat) (hn : n ≤ l.length) : lowTo s (mir l) d n = 1000 - highTo s l d n ∧ highTo s (mir l) d n = 1000 - lowTo s l d n := by
  induction n with
  | zero => simp [lowTo, highTo]
  | succ n ih =>
    obtain ⟨h1, h2⟩ := ih (by omega)
    simp only [lowTo, highTo]
    rw [h1, h2, ob_mir (by omega)]
    constructor
    · show max _ (1000 - (ob l n).2 - s * dist (ob l n).1 d) = _; omega
    · show min _ (1000 - (ob l n).2 + s * dist (ob l n).1 d) = _; omega
def mirK (k : Int) : Int := if k = 1 then 2 else if k = 2 then 1 else if k = 3 then 4 else 3
theorem ok_mir {k v x : Int} (h1 : 1 ≤ k) (h4 : k ≤ 4) : okAt (mirK k) (1000 - v) (1000 - x) = okAt k v x := by
  rw [Bool.eq_iff_iff]
  obtain rfl | rfl | rfl | rfl : k = 1 ∨ k = 2 ∨ k = 3 ∨ k = 4 := by omega
  · rw [show mirK 1 = 2 from rfl, ok24 (.inl rfl), ok13 (.inl rfl)]; omega
  · rw [show mirK 2 = 1 from rfl, ok13 (.inl rfl), ok24 (.inl rfl)]; omega
  · rw [show mirK 3 = 4 from rfl, ok24 (.inr rfl), ok13 (.inr rfl)]; omega
  · rw [show mirK 4 = 3 from rfl, ok13 (.inr rfl), ok24 (.inr rfl)]; omega
theorem shw_mir {g h : Int → Int} {k v : Int} {xs : List Int} (h1 : 1 ≤ k) (h4 : k ≤ 4) (hg : ∀ x, h x = 1000 - g x) : shw h (mirK k) (1000 - v) xs = shw g k v xs := by
  have e : ∀ x, okAt (mirK k) (1000 - v) (h x) = okAt k v (g x) := fun x => by rw [hg]; exact ok_mir h1 h4
  unfold shw anyD allD
  simp only [e]
  obtain rfl | rfl | rfl | rfl : k = 1 ∨ k = 2 ∨ k = 3 ∨ k = 4 := by omega
  all_goals simp [mirK]
theorem phE_mir {k f u v : Int} (h : phE k f u v = 0) : phE (mirK k) f u (1000 - v) = 0 := by
  obtain ⟨k1, k4, f0, fu, hu, hv⟩ := phE_ok h
  exact phE_of (by unfold mirK; split <;> (try split) <;> (try split) <;> omega) (by unfold mirK; split <;> (try split) <;> (try split) <;> omega) f0 fu (by have := hu.2; omega) (by have := hv.2; omega) (by have := hv.1; omega)
theorem dec_mir {s : Int} {l : List (Int × Int)} {k f u v : Int} (h : chkS s l = 0) (hp : phE k f u v = 0) : decP s (mir l) (mirK k) f u (1000 - v) = decP s l k f u v := by
  obtain ⟨k1, k4, _⟩ := phE_ok hp
  rw [dec_eq (right_mir h) (phE_mir hp), dec_eq h hp]
  have e1 : shw (lowB s (mir l)) (mirK k) (1000 - v) (dayL f u) = shw (highB s l) k v (dayL f u) := shw_mir k1 k4 fun x => by unfold lowB highB; rw [mir_length]; exact (low_mir x l.length (Nat.le_refl _)).1
  have e2 : shw (highB s (mir l)) (mirK k) (1000 - v) (dayL f u) = shw (lowB s l) k v (dayL f u) := shw_mir k1 k4 fun x => by unfold lowB highB; rw [mir_length]; exact (low_mir x l.length (Nat.le_refl _)).2
  unfold decR
  rw [e1, e2]
  cases shw (highB s l) k v (dayL f u) <;> cases shw (lowB s l) k v (dayL f u) <;> rfl

/-! Another observation of the same curve. -/
theorem fits_at {s : Int} {l : List (Int × Int)} {g : Int → Int} (h : chkS s l = 0) (hg : Fits s l g 365) (j : Nat) (hj : j < l.length) : g (ob l j).1 = (ob l j).2 := by
  have r := right_at h j hj
  obtain ⟨n, hn⟩ := Int.eq_ofNat_of_zero_le r.1
  have f := hg.1 n (by omega)
  rw [← hn] at f
  have h1 := ((lowTo_le (s := s) (l := l) (d := (ob l j).1) l.length).1 (Int.le_refl _)).2 j hj
  have h2 := ((le_highTo (s := s) (l := l) (d := (ob l j).1) l.length).1 (Int.le_refl _)).2 j hj
  rw [dist_self, Int.mul_zero] at h1 h2
  unfold lowB highB at f
  omega
theorem fits_lip {s : Int} {l : List (Int × Int)} {g : Int → Int} (hs : 0 ≤ s) (hg : Fits s l g 365) (x : Nat) (k : Nat) (hk : x + k < 365) : dist (g ((x + k : Nat) : Int)) (g (x : Int)) ≤ s * (k : Int) := by
  induction k with
  | zero => simp [dist_self]
  | succ k ih =>
    have h1 := ih (by omega)
    have h2 := hg.2 (x + k) (by omega)
    have t := dist_tri (g ((x + (k + 1) : Nat) : Int)) (g ((x + k : Nat) : Int)) (g (x : Int))
    have e : dist (g ((x + (k + 1) : Nat) : Int)) (g ((x + k : Nat) : Int)) ≤ s := by
      show dist (g ((x + k + 1 : Nat) : Int)) _ ≤ s
      unfold dist; omega
    have e2 : s * ((k + 1 : Nat) : Int) = s * (k : Int) + s := by rw [Int.natCast_add, Int.mul_add]; simp
    omega
/-- A right series of points of the curve. -/
def OnC (s : Int) (g : Int → Int) (m : List (Int × Int)) : Prop := chkUp (errAt s m) m.length = 0 ∧ ∀ i, i < m.length → (ob m i).2 = g (ob m i).1 ∧ 0 ≤ (ob m i).1 ∧ (ob m i).1 < 365
theorem fits_green {s : Int} {l : List (Int × Int)} {g : Int → Int} (h : chkS s l = 0) (hg : Fits s l g 365) (x : Nat) (hx : x < 365) : greenOK (g x) := by
  have r := low_rng h (x : Int); have f := hg.1 x hx; exact ⟨by omega, by omega⟩
theorem OnC.put {s : Int} {l : List (Int × Int)} {g : Int → Int} {m : List (Int × Int)} (h : OnC s g m) (hR : chkS s l = 0) (hg : Fits s l g 365) (x : Nat) (hx : x < 365) (hl : 0 < m.length → (ob m (m.length - 1)).1 < x) : OnC s g (m ++ [((x : Int), g x)]) := by
  have hs : 0 ≤ s := by have := (right_lim hR).1; omega
  refine ⟨right_snoc h.1 ⟨by omega, by omega⟩ (fits_green hR hg x hx) fun h0 => ⟨hl h0, ?_⟩, fun i hi => ?_⟩
  · obtain ⟨e, a0, a1⟩ := h.2 (m.length - 1) (by omega)
    have hlt := hl h0
    rw [e]
    obtain ⟨y, hy⟩ := Int.eq_ofNat_of_zero_le a0
    rw [hy] at hlt ⊢
    have := fits_lip hs hg y (x - y) (by omega)
    rw [show y + (x - y) = x by omega] at this
    have e3 : ((x - y : Nat) : Int) = (x : Int) - (y : Int) := by omega
    rw [e3] at this
    exact this
  · rw [List.length_append, List.length_singleton] at hi
    by_cases c : i = m.length
    · subst c; rw [ob_snoc_end]; exact ⟨rfl, by show (0 : Int) ≤ x; omega, by show (x : Int) < 365; omega⟩
    · rw [ob_snoc_lt (by omega)]; exact h.2 i (by omega)
theorem last_snoc (m : List (Int × Int)) (o : Int × Int) : ob (m ++ [o]) ((m ++ [o]).length - 1) = o := by
  rw [List.length_append, List.length_singleton, Nat.add_sub_cancel, ob_snoc_end]
def Cov (l m : List (Int × Int)) (j : Nat) : Prop := ∀ i, i < j → ∃ k, k < m.length ∧ ob m k = ob l i
theorem Cov.more {l m : List (Int × Int)} {j : Nat} (h : Cov l m j) (o : Int × Int) : Cov l (m ++ [o]) j := fun i hi => by
  obtain ⟨k, hk, e⟩ := h i hi; exact ⟨k, by simp; omega, by rw [ob_snoc_lt hk]; exact e⟩
theorem Cov.take {l m : List (Int × Int)} {j : Nat} (h : Cov l m j) {o : Int × Int} (e : o = ob l j) : Cov l (m ++ [o]) (j + 1) := fun i hi => by
  by_cases c : i = j
  · subst c; exact ⟨m.length, by simp, by rw [ob_snoc_end]; exact e⟩
  · exact h.more o i (by omega)
/-- The series so far. -/
structure MoreI (s : Int) (l : List (Int × Int)) (g : Int → Int) (d : Nat) (j : Nat) (m : List (Int × Int)) (done : Bool) : Prop where
  onc : OnC s g m
  len : m.length ≤ j + (if done then 1 else 0)
  cov : Cov l m j
  lastJ : 0 < m.length → 0 < j ∧ (ob m (m.length - 1)).1 ≤ (ob l (j - 1)).1
  yes : done = true → 0 < j ∧ (d : Int) ≤ (ob l (j - 1)).1
  no : done = false → 0 < j → (ob l (j - 1)).1 < d
theorem MoreI.zero (s : Int) (l : List (Int × Int)) (g : Int → Int) (d : Nat) : MoreI s l g d 0 [] false :=
  ⟨⟨rfl, fun i hi => absurd hi (by simp)⟩, by simp, fun i hi => absurd hi (by omega), fun h => absurd h (by simp), (fun h => by cases h), fun _ h => absurd h (by omega)⟩
section
variable {s : Int} {l : List (Int × Int)} {g : Int → Int} {d j : Nat} {m : List (Int × Int)} {done : Bool}
theorem MoreI.asc (h : MoreI s l g d j m done) (hR : chkS s l = 0) (hj : j < l.length) : 0 < m.length → (ob m (m.length - 1)).1 < (ob l j).1 := fun h0 => by
  obtain ⟨hp, h1⟩ := h.lastJ h0
  have h2 := (right_next hR (j - 1) (by omega)).1
  rw [show j - 1 + 1 = j by omega] at h2
  omega
theorem pt {s : Int} {l : List (Int × Int)} {g : Int → Int} {j : Nat} (hR : chkS s l = 0) (hg : Fits s l g 365) (hj : j < l.length) : ∃ x : Nat, x < 365 ∧ ob l j = ((x : Int), g x) := by
  have r := right_at hR j hj
  obtain ⟨x, hx⟩ := Int.eq_ofNat_of_zero_le r.1
  exact ⟨x, by omega, by have := fits_at hR hg j hj; rw [hx] at this; exact Prod.ext hx this.symm⟩
/-- An observation before the day, or one when the day is laid. -/
theorem MoreI.take (h : MoreI s l g d j m done) (hR : chkS s l = 0) (hg : Fits s l g 365) (hj : j < l.length) (hb : done = false → (ob l j).1 < d) : MoreI s l g d (j + 1) (m ++ [ob l j]) done := by
  obtain ⟨x, hx, e⟩ := pt hR hg hj
  have hl := h.asc hR hj
  have hd := h.yes
  refine ⟨by rw [e] at hl ⊢; exact h.onc.put hR hg x hx hl, by have := h.len; simp; omega, h.cov.take rfl, fun _ => ⟨by omega, ?_⟩, fun hd' => ⟨by omega, ?_⟩, fun hd' _ => ?_⟩
  · rw [last_snoc, Nat.add_sub_cancel]; exact Int.le_refl _
  · obtain ⟨hp, q⟩ := hd hd'
    have h2 := (right_next hR (j - 1) (by omega)).1
    rw [show j - 1 + 1 = j by omega] at h2
    rw [Nat.add_sub_cancel]; omega
  · rw [Nat.add_sub_cancel]; exact hb hd'
/-- When the day is laid, no observation is at it any more. -/
theorem MoreI.past (h : MoreI s l g d j m true) (hR : chkS s l = 0) (hj : j < l.length) : (d : Int) < (ob l j).1 := by
  obtain ⟨hp, q⟩ := h.yes rfl
  have h2 := (right_next hR (j - 1) (by omega)).1
  rw [show j - 1 + 1 = j by omega] at h2
  omega
theorem MoreI.lay0 (h : MoreI s l g d j m false) (hR : chkS s l = 0) (hg : Fits s l g 365) (hd : d < 365) : OnC s g (m ++ [((d : Int), g d)]) :=
  h.onc.put hR hg d hd fun h0 => by
    obtain ⟨hp, h1⟩ := h.lastJ h0
    have := h.no rfl hp; omega
/-- The day is laid ahead of the first observation behind it. -/
theorem MoreI.both (h : MoreI s l g d j m false) (hR : chkS s l = 0) (hg : Fits s l g 365) (hd : d < 365) (hj : j < l.length) (hgt : (d : Int) < (ob l j).1) : MoreI s l g d (j + 1) (m ++ [((d : Int), g d)] ++ [ob l j]) true := by
  obtain ⟨x, hx, e⟩ := pt hR hg hj
  refine ⟨by rw [e] at hgt ⊢; exact (h.lay0 hR hg hd).put hR hg x hx (fun _ => by rw [last_snoc]; exact hgt), by have := h.len; simp at this ⊢; omega, (h.cov.more _).take rfl, fun _ => ⟨by omega, ?_⟩, fun _ => ⟨by omega, ?_⟩, (fun hd' => by cases hd')⟩
  · rw [last_snoc, Nat.add_sub_cancel]; exact Int.le_refl _
  · rw [Nat.add_sub_cancel]; omega
/-- The day is an observation's own. -/
theorem MoreI.same (h : MoreI s l g d j m false) (hR : chkS s l = 0) (hg : Fits s l g 365) (hd : d < 365) (hj : j < l.length) (he : (ob l j).1 = d) : MoreI s l g d (j + 1) (m ++ [((d : Int), g d)]) true := by
  have e : ((d : Int), g d) = ob l j := Prod.ext he.symm (by have := fits_at hR hg j hj; rw [he] at this; exact this)
  refine ⟨h.lay0 hR hg hd, by have := h.len; simp at this ⊢; omega, h.cov.take e, fun _ => ⟨by omega, ?_⟩, fun _ => ⟨by omega, ?_⟩, (fun hd' => by cases hd')⟩
  · rw [last_snoc, Nat.add_sub_cancel, he]; exact Int.le_refl _
  · rw [Nat.add_sub_cancel, he]; exact Int.le_refl _
end
/-- The bounds of a series that holds all observations of another one lie within that one's. -/
theorem cov_bounds {s : Int} {l m : List (Int × Int)} (h : Cov l m l.length) (x : Int) : lowB s l x ≤ lowB s m x ∧ highB s m x ≤ highB s l x := by
  have a := ((lowTo_le (s := s) (l := m) (d := x) m.length).1 (Int.le_refl _))
  have b := ((le_highTo (s := s) (l := m) (d := x) m.length).1 (Int.le_refl _))
  refine ⟨(lowTo_le _).2 ⟨a.1, fun j hj => ?_⟩, (le_highTo _).2 ⟨b.1, fun j hj => ?_⟩⟩
  · obtain ⟨k, hk, e⟩ := h j hj
    have := a.2 k hk; rw [e] at this; exact this
  · obtain ⟨k, hk, e⟩ := h j hj
    have := b.2 k hk; rw [e] at this; exact this
theorem more_dec {s : Int} {l m : List (Int × Int)} {k0 f u v : Int} (hl : chkS s l = 0) (hm : chkS s m = 0) (hp : phE k0 f u v = 0) (h : Cov l m l.length) (hd : decP s l k0 f u v ≠ 0) : decP s m k0 f u v = decP s l k0 f u v := by
  obtain ⟨k1, k4, _⟩ := phE_ok hp
  have b := fun x => cov_bounds (s := s) h x
  have lm := fun x => low_le_high hm x
  rw [dec_eq hl hp] at hd ⊢
  rw [dec_eq hm hp]
  unfold decR at hd ⊢
  obtain c | c : (k0 = 1 ∨ k0 = 3) ∨ (k0 = 2 ∨ k0 = 4) := by omega
  · cases hA : shw (lowB s l) k0 v (dayL f u) with
    | true =>
      rw [shw_mono c (fun x _ => (b x).1) hA, shw_mono c (fun x _ => Int.le_trans (b x).1 (lm x)) hA, shw_mono c (fun x _ => Int.le_trans (Int.le_trans (b x).1 (lm x)) (b x).2) hA]
    | false =>
      cases hB : shw (highB s l) k0 v (dayL f u) with
      | true => rw [hA, hB] at hd; simp at hd
      | false =>
        have e1 : shw (highB s m) k0 v (dayL f u) = false := by
          cases h2 : shw (highB s m) k0 v (dayL f u) with
          | false => rfl
          | true => rw [shw_mono c (fun x _ => (b x).2) h2] at hB; cases hB
        have e2 : shw (lowB s m) k0 v (dayL f u) = false := by
          cases h2 : shw (lowB s m) k0 v (dayL f u) with
          | false => rfl
          | true => rw [shw_mono c (fun x _ => lm x) h2] at e1; cases e1
        rw [e1, e2]
  · cases hB : shw (highB s l) k0 v (dayL f u) with
    | true =>
      rw [shw_anti c (fun x _ => (b x).2) hB, shw_anti c (fun x _ => Int.le_trans (lm x) (b x).2) hB, shw_anti c (fun x _ => Int.le_trans (b x).1 (Int.le_trans (lm x) (b x).2)) hB]
    | false =>
      cases hA : shw (lowB s l) k0 v (dayL f u) with
      | true => rw [hA, hB] at hd; simp at hd
      | false =>
        have e1 : shw (lowB s m) k0 v (dayL f u) = false := by
          cases h2 : shw (lowB s m) k0 v (dayL f u) with
          | false => rfl
          | true => rw [shw_anti c (fun x _ => (b x).1) h2] at hA; cases hA
        have e2 : shw (highB s m) k0 v (dayL f u) = false := by
          cases h2 : shw (highB s m) k0 v (dayL f u) with
          | false => rfl
          | true => rw [shw_anti c (fun x _ => lm x) h2] at e1; cases e1
        rw [e1, e2]
end Go.Proofs.Ytlfcdjgmegfjoaa
