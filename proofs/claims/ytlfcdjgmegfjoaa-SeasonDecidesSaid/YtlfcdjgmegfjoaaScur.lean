/- A curve that fits a series, between the lowest and the highest one: the law package's curve. -/
import Derived.Test.YtlfcdjgmegfjoaaSlaw6
namespace Go.Proofs.Ytlfcdjgmegfjoaa
open Go.RowKit Go.Shelf
set_option linter.unusedVariables false
set_option linter.unusedSimpArgs false

/-- A curve that fits. -/
def Fits (s : Int) (l : List (Int × Int)) (g : Int → Int) (n : Nat) : Prop :=
  (∀ j : Nat, j < n → lowB s l (j : Int) ≤ g j ∧ g j ≤ highB s l (j : Int)) ∧ ∀ j : Nat, j + 1 < n → g (j + 1 : Nat) - g j ≤ s ∧ g j - g (j + 1 : Nat) ≤ s
/-- What curve answers. -/
def CurPost (b : Nat) (s : Int) (l : List (Int × Int)) (w : World) (e : Ending) (w' : World) : Prop :=
  ∃ (g : Int → Int) (gl cap : Nat), e = .returned (.slice (some ⟨gl, 0, none⟩) 365 cap) ∧ w.heap.size ≤ gl ∧ CurV w' gl g ∧ Fits s l g 365 ∧ Steps1 b w w'
/-- The curve so far. -/
def CuL (b n : Nat) (s : Int) (a : Option Addr) (len cap : Nat) (l : List (Int × Int)) (w : World) (v dv : Value) (wr : World) : Prop :=
  ∃ (d : Nat) (g : Int → Int), d ≤ 365 ∧ dv = .int .i64 d ∧ wr.ownsRow (w.heap.size + 1) 3 1 v d ((upto (fun j : Nat => g j) d).map (Value.int .i64)) ∧ Fits s l g d ∧ Blk wr w.heap.size 25 #[.int .i64 s, .slice a len cap] ∧ SerN n wr a l ∧ Steps1 b w wr
def ext (g : Int → Int) (d : Nat) (z : Int) : Int → Int := fun x => if x = d then z else g x
theorem ext_lt {g : Int → Int} {d : Nat} {z : Int} {j : Nat} (h : j < d) : ext g d z (j : Int) = g j := by unfold ext; rw [if_neg (by omega)]
theorem ext_at {g : Int → Int} {d : Nat} {z : Int} : ext g d z (d : Int) = z := by unfold ext; rw [if_pos rfl]
theorem upto_ext {g : Int → Int} {d : Nat} {z : Int} : upto (fun j : Nat => ext g d z j) (d + 1) = upto (fun j : Nat => g j) d ++ [z] := by
  rw [upto_succ, ext_at]
  congr 1
  unfold upto
  exact List.map_congr_left fun j hj => ext_lt (by simpa using hj)
theorem fits_ext {s : Int} {l : List (Int × Int)} {g : Int → Int} {d : Nat} {z : Int} (h : Fits s l g d) (h1 : lowB s l (d : Int) ≤ z) (h2 : z ≤ highB s l (d : Int)) (h3 : ∀ m : Nat, d = m + 1 → z - g m ≤ s ∧ g m - z ≤ s) : Fits s l (ext g d z) (d + 1) := by
  refine ⟨fun j hj => ?_, fun j hj => ?_⟩
  · by_cases e : j = d
    · subst e; rw [ext_at]; exact ⟨h1, h2⟩
    · rw [ext_lt (by omega)]; exact h.1 j (by omega)
  · by_cases e : j + 1 = d
    · rw [ext_lt (show j < d by omega), e, ext_at]; exact h3 j e.symm
    · rw [ext_lt (show j < d by omega), ext_lt (show j + 1 < d by omega)]; exact h.2 j (by omega)

theorem serN_row {n k : Nat} {w w' : World} {a : Option Addr} {l : List (Int × Int)} (h : SerN n w a l) (hb : Below k w w') (hk : ∀ b off : Nat, a = some ⟨b, off, none⟩ → 0 < l.length → b < k) : SerN n w' a l :=
  ⟨fun j hj => by
    obtain ⟨b, off, e, h1, h2⟩ := h.1 j hj
    have := hk b off e (by omega)
    exact ⟨b, off, e, (World.cell?_of_block (w := w) (a := ⟨b, off + j * 2, none⟩) (hb.block b this)).trans h1, (World.cell?_of_block (w := w) (a := ⟨b, off + j * 2 + 1, none⟩) (hb.block b this)).trans h2⟩, h.2⟩
set_option maxRecDepth 100000 in
set_option maxHeartbeats 8000000 in
theorem curve_any (b n : Nat) (s : Int) (a : Option Addr) (len cap : Nat) (l : List (Int × Int)) (w : World) (hT : Tape w b) (hn : b < n) (hS : SerN n w a l) (hl : l.length = len) (hR : chkS s l = 0) :
    Calls Try.prog 27 #[.pointer (some ⟨b, 0, none⟩), .agg #[.int .i64 s, .slice a len cap]] w (CurPost b s l w) := by
  obtain ⟨i0, hi, hz0, hz1, hz2⟩ := info_parts Try.info3
  have HI := Lib.hid hi
  have HZ := Lib.hid (And.intro hz0 (And.intro hz1 hz2))
  clear hi hz0 hz1 hz2
  have hb0 := hT.lt
  have lim := right_lim hR
  obtain ⟨s1, s2, l60, _⟩ := lim
  have hlen : len ≤ 60 := by omega
  have T0 := Lib.hid (sal (Steps1.refl hT) (.cells #[.int .i64 s, .slice a len cap] 25))
  have SE := Lib.hid (hS.below ((Below.refl _ _).alloc (Nat.le_refl _) (.cells #[.int .i64 s, .slice a len cap] 25)))
  have B0 := Lib.hid (Blk.fresh (w := w) (g := w.heap.size) (t := 25) (cs := #[.int .i64 s, .slice a len cap]) rfl)
  have SB : RowKit.Hid (∀ b' off : Nat, a = some ⟨b', off, none⟩ → 0 < l.length → b' < w.heap.size) := Lib.hid fun b' off e h0 => by
    obtain ⟨k, o, e2, h1, _⟩ := hS.1 0 h0
    rw [e] at e2; cases e2
    exact World.block_lt_of_cell? w _ h1
  have HL := Lib.hid hl; have HR := Lib.hid hR
  clear hT hS hl hR l60
  have hs0 : 0 ≤ s := by omega
  go_enter Try.func27, Try.ntmps27
  go_wp2
  go_loopw [5, 6] (fun v dv wr => CuL b n s a len cap l w v dv wr) (fun _ dv _ => 365 - (intOf dv).toNat)
  case atStart => exact ⟨0, fun _ => 0, by omega, rfl, World.ownsRow_nil _ _ _ _, ⟨fun j hj => absurd hj (by omega), fun j hj => absurd hj (by omega)⟩, B0.out, SE.out, T0.out⟩
  case round =>
    obtain ⟨d, g, hd, rfl, hr, hf, hb, hse, hs⟩ := hrel
    have R := Lib.hid hr; have FI := Lib.hid hf; have BX := Lib.hid hb; have SE := Lib.hid hse; have SS := Lib.hid hs
    have zr := hs.size
    have x0 : wr.cell? ⟨w.heap.size, 0, none⟩ = some (.int .i64 s) := hb.cell 0; have x1 : wr.cell? ⟨w.heap.size, 1, none⟩ = some (.slice a len cap) := hb.cell 1; have yx := hb.lt
    clear hr hf hb hse hs
    by_cases hlt : d < 365
    · have hlt' : (d : Int) < 365 := by omega
      have HLO : RowKit.Hid (lowAny s l (d : Int) = lowB s l (d : Int)) := by unfold lowAny; rw [if_pos ⟨HR.out, ⟨by omega, by omega⟩⟩]; exact Lib.hid rfl
      have HHI : RowKit.Hid (highAny s l (d : Int) = highB s l (d : Int)) := by unfold highAny; rw [if_pos ⟨HR.out, ⟨by omega, by omega⟩⟩]; exact Lib.hid rfl
      go_wp2_with fail
      refine (rBounds_any s a len cap l _ SE.out.1 HL.out (by omega) (d : Int)).mono ?_
      rw [HLO.out, HHI.out]
      rintro e w5 ⟨rfl, hb5⟩
      have R := Lib.hid (own_below R.out hb5); have BX := Lib.hid (BX.out.below hb5); have SE := Lib.hid (SE.out.below hb5); have SS := Lib.hid (stb SS.out hb5)
      have z5 := hb5.size
      clear hb5 x0 x1 yx HLO HHI
      have lh := low_le_high HR.out (d : Int); have rg := low_rng HR.out (d : Int)
      have P1 : RowKit.Hid (∀ m : Nat, d = m + 1 → lowB s l (d : Int) - s ≤ g m ∧ g m ≤ highB s l (d : Int) + s ∧ 0 ≤ g m ∧ g m ≤ 1000) := Lib.hid fun m hm => by
        have q1 := low_lip (l := l) hs0 (d : Int) (m : Int); have q4 := high_lip (l := l) hs0 (m : Int) (d : Int)
        have e1 : dist (d : Int) (m : Int) = 1 := by unfold dist; omega
        have e2 : dist (m : Int) (d : Int) = 1 := by unfold dist; omega
        rw [e1] at q1; rw [e2] at q4
        have q5 := low_rng HR.out (m : Int)
        have q6 := FI.out.1 m (by omega)
        exact ⟨by omega, by omega, by omega, by omega⟩
      have FE : RowKit.Hid (∀ z, lowB s l (d : Int) ≤ z → z ≤ highB s l (d : Int) → (∀ m : Nat, d = m + 1 → z - g m ≤ s ∧ g m - z ≤ s) → Fits s l (ext g d z) (d + 1)) := Lib.hid fun z h1 h2 h3 => fits_ext FI.out h1 h2 h3
      obtain ⟨lo, hlo⟩ : ∃ z, lowB s l (d : Int) = z := ⟨_, rfl⟩
      obtain ⟨hi, hhi⟩ : ∃ z, highB s l (d : Int) = z := ⟨_, rfl⟩
      rw [hlo] at lh rg P1 FE ⊢; rw [hhi] at lh rg P1 FE ⊢
      obtain ⟨rg1, rg2⟩ := rg
      clear hlo hhi
      go_wp2_with fail
      refine (next_any _ _ _ SS.out.now (by omega) (by omega)).mono ?_; rintro e w6 ⟨c, c1, c2, rfl, hs6⟩
      have z6 := hs6.size
      have R := Lib.hid (R.out.kept hs6.grown (own_ne R.out (by omega))); have BX := Lib.hid (BX.out.step hs6 (by omega)); have SE := Lib.hid (SE.out.step hs6 hn); have SS := Lib.hid (sts SS.out hs6)
      clear hs6
      go_wp2_with fail
      refine (mod_any c (hi - lo + 1) _ (by omega) (by omega)).mono ?_; rintro e w7 ⟨rfl, rfl⟩
      have mo1 := modI_lo c (hi - lo + 1) (by omega); have mo2 := modI_hi c (hi - lo + 1) (by omega)
      obtain ⟨mo, hmo⟩ : ∃ mo, modI c (hi - lo + 1) = mo := ⟨_, rfl⟩
      rw [hmo] at mo1 mo2 ⊢
      clear hmo
      have x0 : w7.cell? ⟨w.heap.size, 0, none⟩ = some (.int .i64 s) := BX.out.cell 0; have yx := BX.out.lt
      rcases Nat.eq_zero_or_pos d with hd0 | hd0
      · subst hd0
        have FE2 : RowKit.Hid (∀ z, lo ≤ z → z ≤ hi → Fits s l (ext g 0 z) (0 + 1)) := Lib.hid fun z h1 h2 => FE.out z h1 h2 fun m hm => absurd hm (by omega)
        go_wp2_with (at_builtin; refine wpList_append_own _ rfl _ _ 22 rfl (w.heap.size + 1) 3 i0 (.int .i64 0) 1 8 Try.underlying22 HI.out HZ.out.1 HZ.out.2.1 HZ.out.2.2 rfl (by decide) _ _ _ rfl (R.out.alloc _) ⟨w7.heap.size, 0, none⟩ 1 1 [_] rfl rfl (cell_one_new _ _ _) (by simp [Value.oneCell']) (by unfold maxLen; omega) (by omega) (by simp; omega) ?_; intro v9 w9 hown' hgrow _)
        all_goals
          have hq := row_app R.out (by omega) hgrow
          have W9 := Lib.hid hown'; have BX9 := Lib.hid ((hq.block _ (by omega)).trans BX.out); have SS9 := Lib.hid (stq SS.out hq (by omega)); have SE9 := Lib.hid (serN_row SE.out hq (fun b' off e h0 => by have := SB.out b' off e h0; omega))
          clear hown' hgrow hq
          go_wp2
          go_roundw
          case rel => exact ⟨0 + 1, ext g 0 _, by omega, rfl, by rw [upto_ext, List.map_append]; exact W9.out, FE2.out _ (by omega) (by omega), BX9.out, SE9.out, SS9.out⟩
          case measure => simp [intOf]
      · obtain ⟨m, rfl⟩ : ∃ m, d = m + 1 := ⟨d - 1, by omega⟩
        obtain ⟨gl, capl, rfl, _, hgl⟩ := R.out.form (by omega)
        have c1 : w7.cell? ⟨gl, m, none⟩ = some (.int .i64 (g (m : Int))) := row_at (f := fun j => g j) R.out (by omega)
        obtain ⟨q1, q2, q3, q4⟩ := P1.out m rfl
        have FE2 : RowKit.Hid (∀ z, lo ≤ z → z ≤ hi → z - g (m : Int) ≤ s → g (m : Int) - z ≤ s → Fits s l (ext g (m + 1) z) (m + 1 + 1)) := Lib.hid fun z h1 h2 h3 h4 => FE.out z h1 h2 fun m' hm => (show m' = m by omega) ▸ ⟨h3, h4⟩
        obtain ⟨pv, hpv⟩ : ∃ z, g (m : Int) = z := ⟨_, rfl⟩
        rw [hpv] at c1 q1 q2 q3 q4 FE2
        clear hpv FE P1
        have i1 : IntKind.i64.wrap (m : Int) = (m : Int) := IntWalk.i64_in _ (by omega)
        have j0 : (0 : Int) ≤ (m : Int) := by omega
        have j1 : (m : Int) < (m : Int) + 1 := by omega
        have i2 : IntKind.i64.wrap (pv - s) = pv - s := IntWalk.i64_in _ (by omega)
        have i3 : IntKind.i64.wrap (pv + s) = pv + s := IntWalk.i64_in _ (by omega)
        go_upto_region 8 with fail
        have o1 : pv - s < pv + s := by omega
        by_cases a1 : lo + mo < pv + s <;> by_cases a2 : pv - s < lo + mo
        all_goals try (exfalso; omega)
        all_goals
          go_quiet (fail)
          go_wp2_with (at_builtin; refine wpList_append_own _ rfl _ _ 22 rfl (w.heap.size + 1) 3 i0 (.int .i64 0) 1 8 Try.underlying22 HI.out HZ.out.1 HZ.out.2.1 HZ.out.2.2 rfl (by decide) _ _ _ rfl (World.ownsRow.alloc (w := w7.drewN nq) R.out _) ⟨w7.heap.size, 0, none⟩ 1 1 [_] rfl rfl (cell_one_new _ _ _) (by simp [Value.oneCell']) (by unfold maxLen; omega) (by omega) (by simp; omega) ?_; intro v9 w9 hown' hgrow _)
          all_goals
            have hq := row_app (W := w7.drewN nq) R.out (by show _ ≤ w7.heap.size; omega) hgrow
            have W9 := Lib.hid hown'; have BX9 := Lib.hid ((hq.block _ (by omega)).trans BX.out); have SS9 := Lib.hid (stq (sdn SS.out nq) hq (by omega)); have SE9 := Lib.hid (serN_row (w := w7.drewN nq) SE.out hq (fun b' off e h0 => by have := SB.out b' off e h0; omega))
            clear hown' hgrow hq
            go_wp2
            go_roundw
            case rel => exact ⟨m + 1 + 1, ext g (m + 1) _, by omega, by go_num, by rw [upto_ext, List.map_append]; exact W9.out, FE2.out _ (by omega) (by omega) (by omega) (by omega), BX9.out, SE9.out, SS9.out⟩
            case measure => simp [intOf]; omega
    · have hd3 : d = 365 := by omega
      subst hd3
      have hge : ¬ ((365 : Nat) : Int) < 365 := by omega
      obtain ⟨gl, capl, rfl, _, hl1⟩ := R.out.form (by omega)
      go_wp2
      go_ret
      exact ⟨g, gl, capl, rfl, by have := (R.out.lt gl rfl).1; omega, curV_of_row (f := g) R.out, FI.out, SS.out⟩
end Go.Proofs.Ytlfcdjgmegfjoaa
