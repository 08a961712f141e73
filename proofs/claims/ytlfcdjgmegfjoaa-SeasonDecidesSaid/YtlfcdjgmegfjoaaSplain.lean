/- The season layer's plain laws: the bounds are the lowest and the highest curve that fit; what the program decides is what the reference decides. -/
import Derived.Test.YtlfcdjgmegfjoaaSrmat
namespace Go.Proofs.Ytlfcdjgmegfjoaa
open Go.RowKit Go.Shelf
set_option linter.unusedVariables false

theorem dist_tri (a b c : Int) : dist a c ≤ dist a b + dist b c := by unfold dist; omega
theorem dist_nn (a b : Int) : 0 ≤ dist a b := by unfold dist; omega
theorem dist_self (a : Int) : dist a a = 0 := by unfold dist; omega
theorem sdist_tri {s : Int} (hs : 0 ≤ s) (a b c : Int) : s * dist a c ≤ s * dist a b + s * dist b c := by
  rw [← Int.mul_add]; exact Int.mul_le_mul_of_nonneg_left (dist_tri a b c) hs
theorem sdist_nn {s : Int} (hs : 0 ≤ s) (a b : Int) : 0 ≤ s * dist a b := Int.mul_nonneg hs (dist_nn a b)
theorem lowTo_le {s : Int} {l : List (Int × Int)} {d x : Int} (n : Nat) : lowTo s l d n ≤ x ↔ 0 ≤ x ∧ ∀ j, j < n → (ob l j).2 - s * dist (ob l j).1 d ≤ x := by
  induction n with
  | zero => simp [lowTo]
  | succ n ih =>
    simp only [lowTo]
    constructor
    · intro h
      obtain ⟨h1, h2⟩ := ih.1 (by omega)
      refine ⟨h1, fun j hj => ?_⟩
      by_cases e : j = n
      · subst e; omega
      · exact h2 j (by omega)
    · rintro ⟨h1, h2⟩
      have := ih.2 ⟨h1, fun j hj => h2 j (by omega)⟩
      have := h2 n (by omega)
      omega
theorem le_highTo {s : Int} {l : List (Int × Int)} {d x : Int} (n : Nat) : x ≤ highTo s l d n ↔ x ≤ 1000 ∧ ∀ j, j < n → x ≤ (ob l j).2 + s * dist (ob l j).1 d := by
  induction n with
  | zero => simp [highTo]
  | succ n ih =>
    simp only [highTo]
    constructor
    · intro h
      obtain ⟨h1, h2⟩ := ih.1 (by omega)
      refine ⟨h1, fun j hj => ?_⟩
      by_cases e : j = n
      · subst e; omega
      · exact h2 j (by omega)
    · rintro ⟨h1, h2⟩
      have := ih.2 ⟨h1, fun j hj => h2 j (by omega)⟩
      have := h2 n (by omega)
      omega
/-- One observation and the next one. -/
theorem right_next {s : Int} {l : List (Int × Int)} (h : chkS s l = 0) (j : Nat) (hj : j + 1 < l.length) : (ob l j).1 < (ob l (j + 1)).1 ∧ dist (ob l (j + 1)).2 (ob l j).2 ≤ s * ((ob l (j + 1)).1 - (ob l j).1) := by
  have e := chkUp_zero (right_lim h).2.2.2 (j + 1) hj
  unfold errAt at e
  by_cases c1 : ¬ (dayOK (ob l (j + 1)).1 ∧ greenOK (ob l (j + 1)).2)
  · rw [if_pos c1] at e; cases e
  · rw [if_neg c1, if_neg (by omega), Nat.add_sub_cancel] at e
    by_cases c2 : (ob l (j + 1)).1 ≤ (ob l j).1
    · rw [if_pos c2] at e; cases e
    · rw [if_neg c2] at e
      by_cases c3 : s * ((ob l (j + 1)).1 - (ob l j).1) < dist (ob l (j + 1)).2 (ob l j).2
      · rw [if_pos c3] at e; cases e
      · exact ⟨by omega, by omega⟩
theorem right_asc {s : Int} {l : List (Int × Int)} (h : chkS s l = 0) (i k : Nat) (hk : i + k < l.length) : (ob l i).1 ≤ (ob l (i + k)).1 ∧ dist (ob l (i + k)).2 (ob l i).2 ≤ s * ((ob l (i + k)).1 - (ob l i).1) := by
  have hs : 0 ≤ s := by have := (right_lim h).1; omega
  induction k with
  | zero => simp [dist_self]
  | succ k ih =>
    obtain ⟨h1, h2⟩ := ih (by omega)
    obtain ⟨h3, h4⟩ := right_next h (i + k) (by omega)
    refine ⟨by show _ ≤ (ob l (i + k + 1)).1; omega, ?_⟩
    show dist (ob l (i + k + 1)).2 (ob l i).2 ≤ s * ((ob l (i + k + 1)).1 - (ob l i).1)
    have t := dist_tri (ob l (i + k + 1)).2 (ob l (i + k)).2 (ob l i).2
    have e : s * ((ob l (i + k + 1)).1 - (ob l i).1) = s * ((ob l (i + k + 1)).1 - (ob l (i + k)).1) + s * ((ob l (i + k)).1 - (ob l i).1) := by rw [← Int.mul_add]; congr 1; omega
    omega
/-- Two observations differ by no more than the slope allows. -/
theorem right_pair {s : Int} {l : List (Int × Int)} (h : chkS s l = 0) (i j : Nat) (hi : i < l.length) (hj : j < l.length) : dist (ob l i).2 (ob l j).2 ≤ s * dist (ob l i).1 (ob l j).1 := by
  have hs : 0 ≤ s := by have := (right_lim h).1; omega
  by_cases c : i ≤ j
  · obtain ⟨k, rfl⟩ : ∃ k, j = i + k := ⟨j - i, by omega⟩
    obtain ⟨h1, h2⟩ := right_asc h i k hj
    have e : dist (ob l i).1 (ob l (i + k)).1 = (ob l (i + k)).1 - (ob l i).1 := by unfold dist; omega
    rw [e]
    have e2 : dist (ob l i).2 (ob l (i + k)).2 = dist (ob l (i + k)).2 (ob l i).2 := by unfold dist; omega
    omega
  · obtain ⟨k, rfl⟩ : ∃ k, i = j + k := ⟨i - j, by omega⟩
    obtain ⟨h1, h2⟩ := right_asc h j k hi
    have e : dist (ob l (j + k)).1 (ob l j).1 = (ob l (j + k)).1 - (ob l j).1 := by unfold dist; omega
    rw [e]; exact h2
theorem low_le_high {s : Int} {l : List (Int × Int)} (h : chkS s l = 0) (d : Int) : lowB s l d ≤ highB s l d := by
  have hs : 0 ≤ s := by have := (right_lim h).1; omega
  refine (lowTo_le _).2 ⟨(le_highTo _).2 ⟨by omega, fun j hj => ?_⟩, fun i hi => (le_highTo _).2 ⟨?_, fun j hj => ?_⟩⟩
  · have := right_at h j hj; have := sdist_nn hs (ob l j).1 d; omega
  · have := right_at h i hi; have := sdist_nn hs (ob l i).1 d; omega
  · have p := right_pair h i j hi hj
    have t := sdist_tri hs (ob l i).1 d (ob l j).1
    have e : s * dist d (ob l j).1 = s * dist (ob l j).1 d := by congr 1; unfold dist; omega
    have : (ob l i).2 - (ob l j).2 ≤ dist (ob l i).2 (ob l j).2 := by unfold dist; omega
    omega
theorem low_lip {s : Int} {l : List (Int × Int)} (hs : 0 ≤ s) (d e : Int) : lowB s l d ≤ lowB s l e + s * dist d e := by
  have h0 := ((lowTo_le (s := s) (l := l) (d := e) l.length).1 (Int.le_refl _))
  refine (lowTo_le _).2 ⟨?_, fun j hj => ?_⟩
  · have := h0.1; have := sdist_nn hs d e; unfold lowB; omega
  · have := h0.2 j hj
    have t := sdist_tri hs (ob l j).1 d e
    unfold lowB; omega
theorem high_lip {s : Int} {l : List (Int × Int)} (hs : 0 ≤ s) (d e : Int) : highB s l d ≤ highB s l e + s * dist d e := by
  have h0 := ((le_highTo (s := s) (l := l) (d := d) l.length).1 (Int.le_refl _))
  have : highB s l d - s * dist d e ≤ highB s l e := (le_highTo _).2 ⟨by have := h0.1; have := sdist_nn hs d e; unfold highB; omega, fun j hj => by
    have := h0.2 j hj
    have t := sdist_tri hs (ob l j).1 e d
    have c : s * dist e d = s * dist d e := by congr 1; unfold dist; omega
    unfold highB; omega⟩
  omega
theorem low_rng {s : Int} {l : List (Int × Int)} (h : chkS s l = 0) (d : Int) : 0 ≤ lowB s l d ∧ highB s l d ≤ 1000 := by
  exact ⟨((lowTo_le (s := s) (l := l) (d := d) l.length).1 (Int.le_refl _)).1, ((le_highTo (s := s) (l := l) (d := d) l.length).1 (Int.le_refl _)).1⟩

theorem le_mxU (g : Int → Int) (xs : List Int) (v : Int) : v ≤ mxU g xs ↔ v ≤ 0 ∨ ∃ x ∈ xs, v ≤ g x := by
  suffices h : ∀ a, v ≤ xs.foldl (fun a x => max a (g x)) a ↔ v ≤ a ∨ ∃ x ∈ xs, v ≤ g x from h 0
  induction xs with
  | nil => intro a; simp
  | cons y ys ih =>
    intro a
    rw [List.foldl_cons, ih]
    simp only [List.mem_cons, exists_eq_or_imp]
    constructor
    · rintro (h | h)
      · by_cases c : v ≤ a
        · exact .inl c
        · exact .inr (.inl (by omega))
      · exact .inr (.inr h)
    · rintro (h | h | h)
      · exact .inl (by omega)
      · exact .inl (by omega)
      · exact .inr h
theorem mnU_le (g : Int → Int) (xs : List Int) (v : Int) : mnU g xs ≤ v ↔ 1000 ≤ v ∨ ∃ x ∈ xs, g x ≤ v := by
  suffices h : ∀ a, xs.foldl (fun a x => min a (g x)) a ≤ v ↔ a ≤ v ∨ ∃ x ∈ xs, g x ≤ v from h 1000
  induction xs with
  | nil => intro a; simp
  | cons y ys ih =>
    intro a
    rw [List.foldl_cons, ih]
    simp only [List.mem_cons, exists_eq_or_imp]
    constructor
    · rintro (h | h)
      · by_cases c : a ≤ v
        · exact .inl c
        · exact .inr (.inl (by omega))
      · exact .inr (.inr h)
    · rintro (h | h | h)
      · exact .inl (by omega)
      · exact .inl (by omega)
      · exact .inr h
theorem mxU_le (g : Int → Int) (xs : List Int) (v : Int) : mxU g xs ≤ v ↔ 0 ≤ v ∧ ∀ x ∈ xs, g x ≤ v := by
  have h := le_mxU g xs (v + 1)
  constructor
  · intro h1
    have h2 : ¬ (v + 1 ≤ mxU g xs) := by omega
    rw [h] at h2
    refine ⟨Int.not_lt.1 fun c => h2 (.inl (by omega)), fun x hx => Int.not_lt.1 fun c => h2 (.inr ⟨x, hx, by omega⟩)⟩
  · rintro ⟨h1, h2⟩
    refine Int.not_lt.1 fun c => ?_
    rcases h.1 (by omega) with c | ⟨x, hx, c⟩
    · omega
    · have := h2 x hx; omega
theorem le_mnU (g : Int → Int) (xs : List Int) (v : Int) : v ≤ mnU g xs ↔ v ≤ 1000 ∧ ∀ x ∈ xs, v ≤ g x := by
  have h := mnU_le g xs (v - 1)
  constructor
  · intro h1
    have h2 : ¬ (mnU g xs ≤ v - 1) := by omega
    rw [h] at h2
    refine ⟨Int.not_lt.1 fun c => h2 (.inl (by omega)), fun x hx => Int.not_lt.1 fun c => h2 (.inr ⟨x, hx, by omega⟩)⟩
  · rintro ⟨h1, h2⟩
    refine Int.not_lt.1 fun c => ?_
    rcases h.1 (by omega) with c | ⟨x, hx, c⟩
    · omega
    · have := h2 x hx; omega
theorem mem_dayL {f u x : Int} : x ∈ dayL f u ↔ f ≤ x ∧ x ≤ u := by
  unfold dayL upto
  simp only [List.mem_map, List.mem_range]
  constructor
  · rintro ⟨j, hj, rfl⟩; omega
  · rintro ⟨h1, h2⟩; exact ⟨(x - f).toNat, by omega, by omega⟩
theorem anyD_iff {g : Int → Int} {k0 v : Int} {xs : List Int} : anyD g k0 v xs = true ↔ ∃ x ∈ xs, okAt k0 v (g x) = true := by simp [anyD]
theorem allD_iff {g : Int → Int} {k0 v : Int} {xs : List Int} : allD g k0 v xs = true ↔ ∀ x ∈ xs, okAt k0 v (g x) = true := by simp [allD]
theorem ok13 {k0 v x : Int} (h : k0 = 1 ∨ k0 = 3) : okAt k0 v x = true ↔ v ≤ x := by
  unfold okAt; rw [if_neg (by omega)]; simp
theorem ok24 {k0 v x : Int} (h : k0 = 2 ∨ k0 = 4) : okAt k0 v x = true ↔ x ≤ v := by
  unfold okAt; rw [if_pos h]; simp
theorem b_of {a : Bool} {p : Prop} [Decidable p] (h : a = true ↔ p) : decide p = a := by
  cases a with
  | true => exact decide_eq_true (h.1 rfl)
  | false => exact decide_eq_false fun c => by have := h.2 c; cases this
theorem peak_iff {g : Int → Int} {f u v : Int} (hfu : f ≤ u) (hg : ∀ x, 0 ≤ g x) (k0 : Int) (hk : k0 = 1) : shw g k0 v (dayL f u) = true ↔ v ≤ mxU g (dayL f u) := by
  unfold shw; rw [if_pos (by omega), anyD_iff, le_mxU]
  constructor
  · rintro ⟨x, hx, h⟩; exact .inr ⟨x, hx, (ok13 (by omega)).1 h⟩
  · rintro (h | ⟨x, hx, h⟩)
    · exact ⟨f, mem_dayL.2 (by omega), (ok13 (by omega)).2 (by have := hg f; omega)⟩
    · exact ⟨x, hx, (ok13 (by omega)).2 h⟩
theorem dip_iff {g : Int → Int} {f u v : Int} (hfu : f ≤ u) (hg : ∀ x, g x ≤ 1000) (k0 : Int) (hk : k0 = 2) : shw g k0 v (dayL f u) = true ↔ mnU g (dayL f u) ≤ v := by
  unfold shw; rw [if_pos (by omega), anyD_iff, mnU_le]
  constructor
  · rintro ⟨x, hx, h⟩; exact .inr ⟨x, hx, (ok24 (by omega)).1 h⟩
  · rintro (h | ⟨x, hx, h⟩)
    · exact ⟨f, mem_dayL.2 (by omega), (ok24 (by omega)).2 (by have := hg f; omega)⟩
    · exact ⟨x, hx, (ok24 (by omega)).2 h⟩
theorem keep_iff {g : Int → Int} {f u v : Int} (hv : v ≤ 1000) (k0 : Int) (hk : k0 = 3) : shw g k0 v (dayL f u) = true ↔ v ≤ mnU g (dayL f u) := by
  unfold shw; rw [if_neg (by omega), allD_iff, le_mnU]
  exact ⟨fun h => ⟨hv, fun x hx => (ok13 (by omega)).1 (h x hx)⟩, fun h x hx => (ok13 (by omega)).2 (h.2 x hx)⟩
theorem lows_iff {g : Int → Int} {f u v : Int} (hv : 0 ≤ v) (k0 : Int) (hk : k0 = 4) : shw g k0 v (dayL f u) = true ↔ mxU g (dayL f u) ≤ v := by
  unfold shw; rw [if_neg (by omega), allD_iff, mxU_le]
  exact ⟨fun h => ⟨hv, fun x hx => (ok24 (by omega)).1 (h x hx)⟩, fun h x hx => (ok24 (by omega)).2 (h.2 x hx)⟩
/-- A curve above another one shows a peak and what is kept if that one does; below, a dip and what stays low. -/
theorem shw_mono {g h : Int → Int} {k0 v : Int} {xs : List Int} (hk : k0 = 1 ∨ k0 = 3) (hgh : ∀ x ∈ xs, g x ≤ h x) (hs : shw g k0 v xs = true) : shw h k0 v xs = true := by
  unfold shw at hs ⊢
  by_cases c : k0 = 1 ∨ k0 = 2
  · rw [if_pos c] at hs ⊢
    rw [anyD_iff] at hs ⊢
    obtain ⟨x, hx, h1⟩ := hs
    exact ⟨x, hx, (ok13 hk).2 (Int.le_trans ((ok13 hk).1 h1) (hgh x hx))⟩
  · rw [if_neg c] at hs ⊢
    rw [allD_iff] at hs ⊢
    exact fun x hx => (ok13 hk).2 (Int.le_trans ((ok13 hk).1 (hs x hx)) (hgh x hx))
theorem shw_anti {g h : Int → Int} {k0 v : Int} {xs : List Int} (hk : k0 = 2 ∨ k0 = 4) (hgh : ∀ x ∈ xs, g x ≤ h x) (hs : shw h k0 v xs = true) : shw g k0 v xs = true := by
  unfold shw at hs ⊢
  by_cases c : k0 = 1 ∨ k0 = 2
  · rw [if_pos c] at hs ⊢
    rw [anyD_iff] at hs ⊢
    obtain ⟨x, hx, h1⟩ := hs
    exact ⟨x, hx, (ok24 hk).2 (Int.le_trans (hgh x hx) ((ok24 hk).1 h1))⟩
  · rw [if_neg c] at hs ⊢
    rw [allD_iff] at hs ⊢
    exact fun x hx => (ok24 hk).2 (Int.le_trans (hgh x hx) ((ok24 hk).1 (hs x hx)))
theorem dec_case {A B : Bool} (h : A = true → B = true) : dec3 A B = if A && B then 1 else if !A && !B then -1 else 0 := by
  cases A <;> cases B <;> simp [dec3] at h ⊢
theorem dec_case' {A B : Bool} (h : B = true → A = true) : dec3 B A = if A && B then 1 else if !A && !B then -1 else 0 := by
  cases A <;> cases B <;> simp [dec3] at h ⊢
/-- What the program decides is what the reference decides. -/
theorem dec_eq {s : Int} {l : List (Int × Int)} {k0 f u v : Int} (h : chkS s l = 0) (hp : phE k0 f u v = 0) : decP s l k0 f u v = decR s l k0 f u v := by
  obtain ⟨k1, k4, f0, fu, hu, hv⟩ := phE_ok hp
  have hv1 := hv.1; have hv2 := hv.2
  have hlo : ∀ x, 0 ≤ lowB s l x := fun x => (low_rng h x).1
  have hhi : ∀ x, highB s l x ≤ 1000 := fun x => (low_rng h x).2
  have hlh : ∀ x, lowB s l x ≤ highB s l x := fun x => low_le_high h x
  unfold decP decW decR
  obtain rfl | rfl | rfl | rfl : k0 = 1 ∨ k0 = 2 ∨ k0 = 3 ∨ k0 = 4 := by omega
  · rw [if_pos rfl, b_of (peak_iff fu hlo 1 rfl), b_of (peak_iff fu (fun x => Int.le_trans (hlo x) (hlh x)) 1 rfl)]
    exact dec_case (shw_mono (.inl rfl) fun x _ => hlh x)
  · rw [if_neg (by omega), if_pos rfl, b_of (dip_iff fu hhi 2 rfl), b_of (dip_iff fu (fun x => Int.le_trans (hlh x) (hhi x)) 2 rfl)]
    exact dec_case' (shw_anti (.inl rfl) fun x _ => hlh x)
  · rw [if_neg (by omega), if_neg (by omega), if_pos rfl, b_of (keep_iff hv2 3 rfl), b_of (keep_iff hv2 3 rfl)]
    exact dec_case (shw_mono (.inr rfl) fun x _ => hlh x)
  · rw [if_neg (by omega), if_neg (by omega), if_neg (by omega), b_of (lows_iff hv1 4 rfl), b_of (lows_iff hv1 4 rfl)]
    exact dec_case' (shw_anti (.inr rfl) fun x _ => hlh x)
theorem decAny_eq (s : Int) (l : List (Int × Int)) (k0 f u v : Int) : decAny s l k0 f u v = decRAny s l k0 f u v := by
  unfold decAny decRAny
  by_cases h : chkS s l = 0
  · rw [if_pos h, if_pos h]
    by_cases hp : phE k0 f u v = 0
    · rw [if_pos hp, if_pos hp]; exact dec_eq h hp
    · rw [if_neg hp, if_neg hp]
  · rw [if_neg h, if_neg h]
theorem mtTo_congr {d e : Ph → Int} {pl : List Ph} {n : Nat} (h : ∀ j, j < n → d (ph pl j) = e (ph pl j)) : mtTo d pl n = mtTo e pl n := by
  induction n with
  | zero => rfl
  | succ n ih => simp only [mtTo]; rw [ih (fun j hj => h j (by omega)), h n (by omega)]
theorem mtAny_eq (s : Int) (l : List (Int × Int)) (pl : List Ph) : mtAny (decPp s l) s l pl = mtAny (decRp s l) s l pl := by
  unfold mtAny
  by_cases h : chkS s l = 0
  · rw [if_pos h, if_pos h]
    by_cases h6 : 6 < pl.length
    · rw [if_pos h6, if_pos h6]
    · rw [if_neg h6, if_neg h6]
      unfold mtG
      cases hb : allOK pl pl.length with
      | true =>
        rw [if_pos rfl, if_pos rfl]
        exact mtTo_congr fun j hj => dec_eq h (allOK_at hb hj)
      | false => rfl
  · rw [if_neg h, if_neg h]
end Go.Proofs.Ytlfcdjgmegfjoaa
