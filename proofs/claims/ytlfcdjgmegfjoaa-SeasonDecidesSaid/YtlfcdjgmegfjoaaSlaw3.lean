/- The walk of SeasonTrue: it answers true. -/
import Derived.Test.YtlfcdjgmegfjoaaScur
namespace Go.Proofs.Ytlfcdjgmegfjoaa
open Go.RowKit Go.Shelf
set_option linter.unusedVariables false
set_option linter.unusedSimpArgs false

/-- n right phases in a row. -/
def RightPhs (w : World) (g n : Nat) : Prop := ∃ pl : List Ph, pl.length = n ∧ allOK pl n = true ∧ Phs w (some ⟨g, 0, none⟩) pl
/-- Behind the phases that are drawn. -/
def PhsC (b n : Nat) (W3 : World) (v : Value) (wx : World) : Prop := ∃ g : Nat, v = .slice (some ⟨g, 0, none⟩) n n ∧ W3.heap.size ≤ g ∧ RightPhs wx g n ∧ Steps1 b W3 wx
def encP (l : List Ph) : List Value := l.flatMap fun p => [.int .i64 p.1, .int .i64 p.2.1, .int .i64 p.2.2.1, .int .i64 p.2.2.2]
theorem encP_length (l : List Ph) : (encP l).length = l.length * 4 := by
  induction l with
  | nil => rfl
  | cons o l ih => simp [encP] at ih ⊢; omega
theorem encP_at (l : List Ph) (j : Nat) (h : j < l.length) : (encP l)[j * 4]? = some (.int .i64 (ph l j).1) ∧ (encP l)[j * 4 + 1]? = some (.int .i64 (ph l j).2.1) ∧ (encP l)[j * 4 + 2]? = some (.int .i64 (ph l j).2.2.1) ∧ (encP l)[j * 4 + 3]? = some (.int .i64 (ph l j).2.2.2) := by
  induction l generalizing j with
  | nil => simp at h
  | cons o l ih =>
    cases j with
    | zero => simp [encP, ph]
    | succ j =>
      have := ih j (by simpa using h)
      have e : encP (o :: l) = .int .i64 o.1 :: .int .i64 o.2.1 :: .int .i64 o.2.2.1 :: .int .i64 o.2.2.2 :: encP l := by simp [encP]
      have e2 : ph (o :: l) (j + 1) = ph l j := by simp [ph]
      rw [e, e2, show (j + 1) * 4 = j * 4 + 1 + 1 + 1 + 1 by omega]
      simpa using this
theorem phs_of_blk {w : World} {g : Nat} (pl : List Ph) (h : Blk w g 27 (encP pl).toArray) : Phs w (some ⟨g, 0, none⟩) pl := fun j hj => by
  obtain ⟨e0, e1, e2, e3⟩ := encP_at pl j hj
  refine ⟨g, 0, rfl, ?_, ?_, ?_, ?_⟩
  · rw [h.cell (0 + j * 4)]; simpa using e0
  · rw [h.cell (0 + j * 4 + 1)]; simpa using e1
  · rw [h.cell (0 + j * 4 + 2)]; simpa using e2
  · rw [h.cell (0 + j * 4 + 3)]; simpa using e3
theorem RightPhs.below {w wx : World} {g n : Nat} (h : RightPhs w g n) (hb : Below w.heap.size w wx) : RightPhs wx g n := by
  obtain ⟨pl, h1, h2, h3⟩ := h; exact ⟨pl, h1, h2, h3.below hb⟩
theorem RightPhs.step {w wx : World} {g n b : Nat} (h : RightPhs w g n) (hs : Steps1 b w wx) (hg : g ≠ b) : RightPhs wx g n := by
  obtain ⟨pl, h1, h2, h3⟩ := h
  refine ⟨pl, h1, h2, fun j hj => ?_⟩
  obtain ⟨k, off, e, q0, q1, q2, q3⟩ := h3 j hj
  cases e
  exact ⟨g, 0, rfl, sc1 hs q0 hg, sc1 hs q1 hg, sc1 hs q2 hg, sc1 hs q3 hg⟩
/-- Whatever curve fits shows a phase if that is decided Yes, and does not if No. -/
theorem fits_yes {s : Int} {l : List (Int × Int)} {g : Int → Int} {k0 f u v : Int} (h : chkS s l = 0) (hp : phE k0 f u v = 0) (hg : Fits s l g 365) (hd : decP s l k0 f u v = 1) : shw g k0 v (dayL f u) = true := by
  obtain ⟨k1, k4, f0, fu, hu, hv⟩ := phE_ok hp
  have hu2 := hu.2
  have hb : ∀ x, x ∈ dayL f u → lowB s l x ≤ g x ∧ g x ≤ highB s l x := fun x hx => by
    obtain ⟨h1, h2⟩ := mem_dayL.1 hx
    obtain ⟨j, rfl⟩ := Int.eq_ofNat_of_zero_le (show 0 ≤ x by omega)
    exact hg.1 j (by omega)
  rw [dec_eq h hp] at hd
  unfold decR at hd
  cases hA : shw (lowB s l) k0 v (dayL f u) <;> cases hB : shw (highB s l) k0 v (dayL f u) <;> rw [hA, hB] at hd <;> simp at hd
  obtain c | c : (k0 = 1 ∨ k0 = 3) ∨ (k0 = 2 ∨ k0 = 4) := by omega
  · exact shw_mono c (fun x hx => (hb x hx).1) hA
  · exact shw_anti c (fun x hx => (hb x hx).2) hB
theorem fits_no {s : Int} {l : List (Int × Int)} {g : Int → Int} {k0 f u v : Int} (h : chkS s l = 0) (hp : phE k0 f u v = 0) (hg : Fits s l g 365) (hd : decP s l k0 f u v = -1) : shw g k0 v (dayL f u) = false := by
  obtain ⟨k1, k4, f0, fu, hu, hv⟩ := phE_ok hp
  have hu2 := hu.2
  have hb : ∀ x, x ∈ dayL f u → lowB s l x ≤ g x ∧ g x ≤ highB s l x := fun x hx => by
    obtain ⟨h1, h2⟩ := mem_dayL.1 hx
    obtain ⟨j, rfl⟩ := Int.eq_ofNat_of_zero_le (show 0 ≤ x by omega)
    exact hg.1 j (by omega)
  rw [dec_eq h hp] at hd
  unfold decR at hd
  cases hA : shw (lowB s l) k0 v (dayL f u) <;> cases hB : shw (highB s l) k0 v (dayL f u) <;> rw [hA, hB] at hd <;> simp at hd
  cases hG : shw g k0 v (dayL f u) with
  | false => rfl
  | true =>
    obtain c | c : (k0 = 1 ∨ k0 = 3) ∨ (k0 = 2 ∨ k0 = 4) := by omega
    · rw [shw_mono c (fun x hx => (hb x hx).2) hG] at hB; cases hB
    · rw [shw_anti c (fun x hx => (hb x hx).1) hG] at hA; cases hA
theorem decP_cases {s : Int} {l : List (Int × Int)} {k0 f u v : Int} (h : chkS s l = 0) (hp : phE k0 f u v = 0) : decP s l k0 f u v = 1 ∨ decP s l k0 f u v = 0 ∨ decP s l k0 f u v = -1 := by
  rw [dec_eq h hp]; unfold decR
  split
  · exact .inl rfl
  · split
    · exact .inr (.inr rfl)
    · exact .inr (.inl rfl)

set_option maxRecDepth 100000 in
set_option maxHeartbeats 8000000 in
theorem true_walk (a0 : Option Addr) (len0 cap0 : Nat) (z0 : List Int) (w : World) (hr : IsRow .i64 w a0 len0 cap0 z0) :
    Calls Try.prog 5 #[.slice a0 len0 cap0] w fun e w' => e = .returned (.bool true) ∧ Below w.heap.size w w' := by
  go_enter Try.func5, Try.ntmps5
  go_wp2_with fail
  refine (new_any _ _ _ _ _ hr).mono ?_
  rintro e w1 ⟨rfl, hb1, hT1⟩
  have L1 := Lib.hid hb1; have T1 := Lib.hid hT1; have zb1 := hT1.lt
  clear hb1 hT1 hr
  go_wp2_with fail
  refine (series_any _ _ T1.out).mono ?_
  rintro e w2 ⟨s, l, sv, rfl, s1, s2, l6, hR, hrow, hnil, hs2⟩
  have L2 := Lib.hid (bos L1.out (Nat.le_refl _) hs2); have T2 := Lib.hid hs2.now
  have z2 := hs2.size
  obtain ⟨a, cap, rfl, hSN, hlc, hcm⟩ := ser_of_row hrow
  have SN2 := Lib.hid hSN; have RI := Lib.hid hR
  unfold maxLen at hcm
  clear hs2 hrow hSN hnil hR L1 T1
  obtain ⟨len, hlen⟩ : ∃ n, l.length = n := ⟨_, rfl⟩
  have HLEN := Lib.hid hlen
  rw [hlen] at l6 hlc ⊢
  clear hlen
  go_upto_region 3 with fail
  have BS3 := Lib.hid (Blk.fresh (w := w2) (g := w2.heap.size) (t := 25) (cs := #[.int .i64 s, .slice a len cap]) rfl)
  have L3 := Lib.hid (bal L2.out (.cells #[.int .i64 s, .slice a len cap] 25)); have T3 := Lib.hid (T2.out.alloc (.cells #[.int .i64 s, .slice a len cap] 25)); have SN3 := Lib.hid (SN2.out.below ((Below.refl _ _).alloc (Nat.le_refl _) (.cells #[.int .i64 s, .slice a len cap] 25)))
  have hz3 : (w2.alloc (.cells #[.int .i64 s, .slice a len cap] 25)).heap.size = w2.heap.size + 1 := by simp
  obtain ⟨W3, hW3⟩ : ∃ W, w2.alloc (.cells #[.int .i64 s, .slice a len cap] 25) = W := ⟨_, rfl⟩
  rw [hW3] at BS3 L3 T3 SN3 hz3 ⊢
  have z3 : w2.heap.size < W3.heap.size := by omega
  clear hW3 hz3 L2 T2 SN2
  have tok1 : True := trivial
  have tok2 : True := trivial
  have tok3 : True := trivial
  have tok4 : True := trivial
  have b0 : W3.cell? ⟨w2.heap.size, 0, none⟩ = some (.int .i64 s) := BS3.out.cell 0; have b1 : W3.cell? ⟨w2.heap.size, 1, none⟩ = some (.slice a len cap) := BS3.out.cell 1
  have SS := Lib.hid (Steps1.refl T3.out)
  go_cut [5] (fun v wx => PhsC w.heap.size 4 W3 v wx)
  case first =>
    go_region_held3 (fun w' => w'.cell? ⟨w2.heap.size, 0, none⟩ = some (.int .i64 s) ∧ w'.cell? ⟨w2.heap.size, 1, none⟩ = some (.slice a len cap)) (simp [go_sem, *])
      (first
      | (go_at_call 20; have _t := tok1; refine (phase_any _ w1.heap.size s a len cap l _ (by first | exact SS.out.now | exact SS.out.now.drew) zb1 (by first | exact SN3.out | exact SN3.out.drew) HLEN.out RI.out).mono ?_; rintro e x1 ⟨k1, f1, u1, v1, rfl, hp1, hs1⟩; clear tok1 _t; have zp := hs1.size; (try simp at zp); have PE1 := Lib.hid hp1; have SS := Lib.hid (show Steps1 w.heap.size W3 _ from (by first | exact sts SS.out hs1 | exact sts (sdr SS.out) hs1)); have SN3 := Lib.hid (show SerN w1.heap.size _ a l from (by first | exact SN3.out.step hs1 zb1 | exact SN3.out.drew.step hs1 zb1)); have BS3 := Lib.hid (show Blk _ w2.heap.size 25 #[.int .i64 s, .slice a len cap] from (by first | exact BS3.out.step hs1 (by omega) | exact BS3.out.drew.step hs1 (by omega))); have b0 := BS3.out.cell 0; have b1 := BS3.out.cell 1; have yb := BS3.out.lt; (try simp at b0 b1); clear hs1 hp1)
      | (go_at_call 20; have _t := tok2; refine (phase_any _ w1.heap.size s a len cap l _ (by first | exact SS.out.now | exact SS.out.now.drew) zb1 (by first | exact SN3.out | exact SN3.out.drew) HLEN.out RI.out).mono ?_; rintro e x2 ⟨k2, f2, u2, v2, rfl, hp2, hs2⟩; clear tok2 _t; have zp := hs2.size; (try simp at zp); have PE2 := Lib.hid hp2; have SS := Lib.hid (show Steps1 w.heap.size W3 _ from (by first | exact sts SS.out hs2 | exact sts (sdr SS.out) hs2)); have SN3 := Lib.hid (show SerN w1.heap.size _ a l from (by first | exact SN3.out.step hs2 zb1 | exact SN3.out.drew.step hs2 zb1)); have BS3 := Lib.hid (show Blk _ w2.heap.size 25 #[.int .i64 s, .slice a len cap] from (by first | exact BS3.out.step hs2 (by omega) | exact BS3.out.drew.step hs2 (by omega))); have b0 := BS3.out.cell 0; have b1 := BS3.out.cell 1; have yb := BS3.out.lt; (try simp at b0 b1); clear hs2 hp2)
      | (go_at_call 20; have _t := tok3; refine (phase_any _ w1.heap.size s a len cap l _ (by first | exact SS.out.now | exact SS.out.now.drew) zb1 (by first | exact SN3.out | exact SN3.out.drew) HLEN.out RI.out).mono ?_; rintro e x3 ⟨k3, f3, u3, v3, rfl, hp3, hs3⟩; clear tok3 _t; have zp := hs3.size; (try simp at zp); have PE3 := Lib.hid hp3; have SS := Lib.hid (show Steps1 w.heap.size W3 _ from (by first | exact sts SS.out hs3 | exact sts (sdr SS.out) hs3)); have SN3 := Lib.hid (show SerN w1.heap.size _ a l from (by first | exact SN3.out.step hs3 zb1 | exact SN3.out.drew.step hs3 zb1)); have BS3 := Lib.hid (show Blk _ w2.heap.size 25 #[.int .i64 s, .slice a len cap] from (by first | exact BS3.out.step hs3 (by omega) | exact BS3.out.drew.step hs3 (by omega))); have b0 := BS3.out.cell 0; have b1 := BS3.out.cell 1; have yb := BS3.out.lt; (try simp at b0 b1); clear hs3 hp3)
      | (go_at_call 20; have _t := tok4; refine (phase_any _ w1.heap.size s a len cap l _ (by first | exact SS.out.now | exact SS.out.now.drew) zb1 (by first | exact SN3.out | exact SN3.out.drew) HLEN.out RI.out).mono ?_; rintro e x4 ⟨k4, f4, u4, v4, rfl, hp4, hs4⟩; clear tok4 _t; have zp := hs4.size; (try simp at zp); have PE4 := Lib.hid hp4; have SS := Lib.hid (show Steps1 w.heap.size W3 _ from (by first | exact sts SS.out hs4 | exact sts (sdr SS.out) hs4)); have SN3 := Lib.hid (show SerN w1.heap.size _ a l from (by first | exact SN3.out.step hs4 zb1 | exact SN3.out.drew.step hs4 zb1)); have BS3 := Lib.hid (show Blk _ w2.heap.size 25 #[.int .i64 s, .slice a len cap] from (by first | exact BS3.out.step hs4 (by omega) | exact BS3.out.drew.step hs4 (by omega))); have b0 := BS3.out.cell 0; have b1 := BS3.out.cell 1; have yb := BS3.out.lt; (try simp at b0 b1); clear hs4 hp4))
    all_goals (go_wp2_with fail)
    all_goals go_meet
    all_goals
      (case rel => exact ⟨_, rfl, by have := SS.out.size; omega, ⟨[(k1, f1, u1, v1), (k2, f2, u2, v2), (k3, f3, u3, v3), (k4, f4, u4, v4)], rfl, by simp [allOK, ph, pE, PE1.out, PE2.out, PE3.out, PE4.out], phs_of_blk [(k1, f1, u1, v1), (k2, f2, u2, v2), (k3, f3, u3, v3), (k4, f4, u4, v4)] (Blk.fresh rfl)⟩, sal SS.out _⟩)
  case rest =>
    obtain ⟨gp, rfl, hgp, hph, hss⟩ := hcut
    have SN4 := Lib.hid (SN3.out.step hss zb1); have BS4 := Lib.hid (BS3.out.step hss (by omega)); have L4 := Lib.hid (bos L3.out (Nat.le_refl _) hss); have T4 := Lib.hid hss.now; have PH4 := Lib.hid hph
    have z4 := hss.size
    have b0 : wc.cell? ⟨w2.heap.size, 0, none⟩ = some (.int .i64 s) := BS4.out.cell 0; have b1 : wc.cell? ⟨w2.heap.size, 1, none⟩ = some (.slice a len cap) := BS4.out.cell 1; have yb := BS4.out.lt
    clear hph hss SN3 BS3 L3 T3 SS tok1 tok2 tok3 tok4
    go_wp2_with fail
    refine (curve_any _ w1.heap.size s a len cap l _ T4.out zb1 SN4.out HLEN.out RI.out).mono ?_
    rintro e w5 ⟨g, gl, capl, rfl, hgl, hcv, hfit, hs5⟩
    have SN5 := Lib.hid (SN4.out.step hs5 zb1).1; have BS5 := Lib.hid (BS4.out.step hs5 (by omega)); have L5 := Lib.hid (bos L4.out (Nat.le_refl _) hs5); have PH5 := Lib.hid (PH4.out.step hs5 (by omega)); have CV5 := Lib.hid hcv; have FIT := Lib.hid hfit
    have z5 := hs5.size
    have b0 : w5.cell? ⟨w2.heap.size, 0, none⟩ = some (.int .i64 s) := BS5.out.cell 0; have b1 : w5.cell? ⟨w2.heap.size, 1, none⟩ = some (.slice a len cap) := BS5.out.cell 1; have yb := BS5.out.lt
    clear hcv hfit hs5 SN4 BS4 L4 PH4 T4
    go_wp2_with fail
    refine (pcheck_any s a len cap l _ SN5.out HLEN.out (by omega)).mono ?_
    rw [RI.out]
    rintro e w6 ⟨rfl, hb6⟩
    have SN6 := Lib.hid (SN5.out.below hb6); have BS6 := Lib.hid (BS5.out.below hb6); have L6 := Lib.hid (btr L5.out hb6); have PH6 := Lib.hid (PH5.out.below hb6); have CV6 := Lib.hid (CV5.out.below hb6)
    have z6 := hb6.size
    clear hb6 SN5 BS5 L5 PH5 CV5 b0 b1 yb
    go_wp2_with fail
    go_loopw [37] (fun v wr => ChL w6 4 v wr) (fun v _ => 4 - (intOf v).toNat)
    case atStart => exact ⟨0, rfl, by omega, Below.refl _ _⟩
    case round =>
      obtain ⟨jj, rfl, hj4, hB⟩ := hrel
      have zr := hB.size
      have LL := Lib.hid hB
      by_cases hlt : jj < 4
      · have hlt' : (jj : Int) < 4 := by omega
        obtain ⟨pl, hpl, hok, hphs⟩ := PH6.out.below hB
        obtain ⟨kb, ko, hke, c0, c1, c2, c3⟩ := hphs jj (by omega)
        cases hke
        have hpe : pE (ph pl jj) = 0 := allOK_at hok hlt
        obtain ⟨⟨k0, f, u, v⟩, hq⟩ : ∃ q, ph pl jj = q := ⟨_, rfl⟩
        rw [hq] at c0 c1 c2 c3 hpe
        dsimp only at c0 c1 c2 c3
        simp only [Nat.zero_add] at c0 c1 c2 c3
        have PE : RowKit.Hid (phE k0 f u v = 0) := Lib.hid hpe
        have yg := World.block_lt_of_cell? _ _ c0
        obtain ⟨k1, k4, f0, fu, hu, hv⟩ := phE_ok PE.out
        have hu2 := hu.2
        have SNr := Lib.hid (SN6.out.below hB); have BSr := Lib.hid (BS6.out.below hB); have CVr := Lib.hid (CV6.out.below hB); have LLr := LL
        have b0 : wr.cell? ⟨w2.heap.size, 0, none⟩ = some (.int .i64 s) := BSr.out.cell 0; have b1 : wr.cell? ⟨w2.heap.size, 1, none⟩ = some (.slice a len cap) := BSr.out.cell 1; have yb := BSr.out.lt
        clear hpl hok hphs hq hpe hv hB
        obtain ⟨fn, rfl⟩ := Int.eq_ofNat_of_zero_le f0
        have hfn : fn < 365 := by omega
        have hfn' : (fn : Int) < ((365 : Nat) : Int) := by omega
        have HLO : RowKit.Hid (lowAny s l (fn : Int) = lowB s l (fn : Int)) := by unfold lowAny; rw [if_pos ⟨RI.out, ⟨by omega, by omega⟩⟩]; exact Lib.hid rfl
        have HHI : RowKit.Hid (highAny s l (fn : Int) = highB s l (fn : Int)) := by unfold highAny; rw [if_pos ⟨RI.out, ⟨by omega, by omega⟩⟩]; exact Lib.hid rfl
        obtain ⟨ft1, ft2⟩ := FIT.out.1 fn hfn
        have DC := Lib.hid (decP_cases RI.out PE.out)
        have YES := Lib.hid (fits_yes RI.out PE.out FIT.out); have NO := Lib.hid (fits_no RI.out PE.out FIT.out)
        go_wp2_with fail
        refine (pDecide_ok s a len cap l _ (SNr.out.alloc _) HLEN.out (by omega) k0 fn u v RI.out PE.out).mono ?_
        rintro e w7 ⟨rfl, hb7⟩
        have SN7 := Lib.hid ((SNr.out.alloc _).below hb7); have BS7 := Lib.hid ((BSr.out.alloc _).below hb7); have CV7 := Lib.hid ((CVr.out.alloc _).below hb7); have LL7 := Lib.hid (btr (bal LLr.out _) hb7); have BQ7 := Lib.hid ((Blk.fresh (w := wr) (g := wr.heap.size) (t := 27) (cs := #[.int .i64 k0, .int .i64 fn, .int .i64 u, .int .i64 v]) rfl).below hb7); have z7 := hb7.size; (try simp at z7); have b0 : w7.cell? ⟨w2.heap.size, 0, none⟩ = some (.int .i64 s) := BS7.out.cell 0; have b1 : w7.cell? ⟨w2.heap.size, 1, none⟩ = some (.slice a len cap) := BS7.out.cell 1; have yb := BS7.out.lt; have q0 : w7.cell? ⟨wr.heap.size, 0, none⟩ = some (.int .i64 k0) := BQ7.out.cell 0; have q1 : w7.cell? ⟨wr.heap.size, 1, none⟩ = some (.int .i64 fn) := BQ7.out.cell 1; have q2 : w7.cell? ⟨wr.heap.size, 2, none⟩ = some (.int .i64 u) := BQ7.out.cell 2; have q3 : w7.cell? ⟨wr.heap.size, 3, none⟩ = some (.int .i64 v) := BQ7.out.cell 3; have yq := BQ7.out.lt; clear hb7
        obtain ⟨D, hD⟩ : ∃ D, decP s l k0 fn u v = D := ⟨_, rfl⟩
        rw [hD] at DC YES NO ⊢
        clear hD
        rcases DC.out with hd | hd | hd
        · have YS := Lib.hid (YES.out hd)
          subst hd
          clear YES NO DC
          go_wp2_with fail
          refine (lshows_any gl capl g k0 fn u v _ CV7.out PE.out).mono ?_
          rw [YS.out]
          rintro e w8 ⟨rfl, hb8⟩
          have SN8 := Lib.hid (SN7.out.below hb8); have BS8 := Lib.hid (BS7.out.below hb8); have CV8 := Lib.hid (CV7.out.below hb8); have LL8 := Lib.hid (btr LL7.out hb8); have BQ8 := Lib.hid (BQ7.out.below hb8); have z8 := hb8.size; (try simp at z8); have b0 : w8.cell? ⟨w2.heap.size, 0, none⟩ = some (.int .i64 s) := BS8.out.cell 0; have b1 : w8.cell? ⟨w2.heap.size, 1, none⟩ = some (.slice a len cap) := BS8.out.cell 1; have yb := BS8.out.lt; have q0 : w8.cell? ⟨wr.heap.size, 0, none⟩ = some (.int .i64 k0) := BQ8.out.cell 0; have q1 : w8.cell? ⟨wr.heap.size, 1, none⟩ = some (.int .i64 fn) := BQ8.out.cell 1; have q2 : w8.cell? ⟨wr.heap.size, 2, none⟩ = some (.int .i64 u) := BQ8.out.cell 2; have q3 : w8.cell? ⟨wr.heap.size, 3, none⟩ = some (.int .i64 v) := BQ8.out.cell 3; have yq := BQ8.out.lt; clear hb8
          go_wp2_with fail
          refine (pBounds_any s a len cap l _ SN8.out HLEN.out (by omega) (fn : Int)).mono ?_
          rw [HLO.out, HHI.out]
          rintro e w9 ⟨rfl, hb9⟩
          have SN9 := Lib.hid (SN8.out.below hb9); have BS9 := Lib.hid (BS8.out.below hb9); have CV9 := Lib.hid (CV8.out.below hb9); have LL9 := Lib.hid (btr LL8.out hb9); have BQ9 := Lib.hid (BQ8.out.below hb9); have z9 := hb9.size; (try simp at z9); have b0 : w9.cell? ⟨w2.heap.size, 0, none⟩ = some (.int .i64 s) := BS9.out.cell 0; have b1 : w9.cell? ⟨w2.heap.size, 1, none⟩ = some (.slice a len cap) := BS9.out.cell 1; have yb := BS9.out.lt; have q0 : w9.cell? ⟨wr.heap.size, 0, none⟩ = some (.int .i64 k0) := BQ9.out.cell 0; have q1 : w9.cell? ⟨wr.heap.size, 1, none⟩ = some (.int .i64 fn) := BQ9.out.cell 1; have q2 : w9.cell? ⟨wr.heap.size, 2, none⟩ = some (.int .i64 u) := BQ9.out.cell 2; have q3 : w9.cell? ⟨wr.heap.size, 3, none⟩ = some (.int .i64 v) := BQ9.out.cell 3; have yq := BQ9.out.lt; clear hb9
          have cg : w9.cell? ⟨gl, fn, none⟩ = some (.int .i64 (g (fn : Int))) := CV9.out fn hfn
          have ycg := World.block_lt_of_cell? _ _ cg
          go_wp2
          go_roundw
          case rel => exact ⟨jj + 1, by go_num, by omega, LL9.out⟩
          case measure => simp [intOf]; omega
        · subst hd
          clear YES NO DC
          go_wp2_with fail
          refine (pBounds_any s a len cap l _ SN7.out HLEN.out (by omega) (fn : Int)).mono ?_
          rw [HLO.out, HHI.out]
          rintro e w9 ⟨rfl, hb9⟩
          have SN9 := Lib.hid (SN7.out.below hb9); have BS9 := Lib.hid (BS7.out.below hb9); have CV9 := Lib.hid (CV7.out.below hb9); have LL9 := Lib.hid (btr LL7.out hb9); have BQ9 := Lib.hid (BQ7.out.below hb9); have z9 := hb9.size; (try simp at z9); have b0 : w9.cell? ⟨w2.heap.size, 0, none⟩ = some (.int .i64 s) := BS9.out.cell 0; have b1 : w9.cell? ⟨w2.heap.size, 1, none⟩ = some (.slice a len cap) := BS9.out.cell 1; have yb := BS9.out.lt; have q0 : w9.cell? ⟨wr.heap.size, 0, none⟩ = some (.int .i64 k0) := BQ9.out.cell 0; have q1 : w9.cell? ⟨wr.heap.size, 1, none⟩ = some (.int .i64 fn) := BQ9.out.cell 1; have q2 : w9.cell? ⟨wr.heap.size, 2, none⟩ = some (.int .i64 u) := BQ9.out.cell 2; have q3 : w9.cell? ⟨wr.heap.size, 3, none⟩ = some (.int .i64 v) := BQ9.out.cell 3; have yq := BQ9.out.lt; clear hb9
          have cg : w9.cell? ⟨gl, fn, none⟩ = some (.int .i64 (g (fn : Int))) := CV9.out fn hfn
          have ycg := World.block_lt_of_cell? _ _ cg
          go_wp2
          go_roundw
          case rel => exact ⟨jj + 1, by go_num, by omega, LL9.out⟩
          case measure => simp [intOf]; omega
        · have NS := Lib.hid (NO.out hd)
          subst hd
          clear YES NO DC
          go_wp2_with fail
          refine (lshows_any gl capl g k0 fn u v _ CV7.out PE.out).mono ?_
          rw [NS.out]
          rintro e w8 ⟨rfl, hb8⟩
          have SN8 := Lib.hid (SN7.out.below hb8); have BS8 := Lib.hid (BS7.out.below hb8); have CV8 := Lib.hid (CV7.out.below hb8); have LL8 := Lib.hid (btr LL7.out hb8); have BQ8 := Lib.hid (BQ7.out.below hb8); have z8 := hb8.size; (try simp at z8); have b0 : w8.cell? ⟨w2.heap.size, 0, none⟩ = some (.int .i64 s) := BS8.out.cell 0; have b1 : w8.cell? ⟨w2.heap.size, 1, none⟩ = some (.slice a len cap) := BS8.out.cell 1; have yb := BS8.out.lt; have q0 : w8.cell? ⟨wr.heap.size, 0, none⟩ = some (.int .i64 k0) := BQ8.out.cell 0; have q1 : w8.cell? ⟨wr.heap.size, 1, none⟩ = some (.int .i64 fn) := BQ8.out.cell 1; have q2 : w8.cell? ⟨wr.heap.size, 2, none⟩ = some (.int .i64 u) := BQ8.out.cell 2; have q3 : w8.cell? ⟨wr.heap.size, 3, none⟩ = some (.int .i64 v) := BQ8.out.cell 3; have yq := BQ8.out.lt; clear hb8
          go_wp2_with fail
          refine (pBounds_any s a len cap l _ SN8.out HLEN.out (by omega) (fn : Int)).mono ?_
          rw [HLO.out, HHI.out]
          rintro e w9 ⟨rfl, hb9⟩
          have SN9 := Lib.hid (SN8.out.below hb9); have BS9 := Lib.hid (BS8.out.below hb9); have CV9 := Lib.hid (CV8.out.below hb9); have LL9 := Lib.hid (btr LL8.out hb9); have BQ9 := Lib.hid (BQ8.out.below hb9); have z9 := hb9.size; (try simp at z9); have b0 : w9.cell? ⟨w2.heap.size, 0, none⟩ = some (.int .i64 s) := BS9.out.cell 0; have b1 : w9.cell? ⟨w2.heap.size, 1, none⟩ = some (.slice a len cap) := BS9.out.cell 1; have yb := BS9.out.lt; have q0 : w9.cell? ⟨wr.heap.size, 0, none⟩ = some (.int .i64 k0) := BQ9.out.cell 0; have q1 : w9.cell? ⟨wr.heap.size, 1, none⟩ = some (.int .i64 fn) := BQ9.out.cell 1; have q2 : w9.cell? ⟨wr.heap.size, 2, none⟩ = some (.int .i64 u) := BQ9.out.cell 2; have q3 : w9.cell? ⟨wr.heap.size, 3, none⟩ = some (.int .i64 v) := BQ9.out.cell 3; have yq := BQ9.out.lt; clear hb9
          have cg : w9.cell? ⟨gl, fn, none⟩ = some (.int .i64 (g (fn : Int))) := CV9.out fn hfn
          have ycg := World.block_lt_of_cell? _ _ cg
          go_wp2
          go_roundw
          case rel => exact ⟨jj + 1, by go_num, by omega, LL9.out⟩
          case measure => simp [intOf]; omega
      · have hge : ¬ (jj : Int) < 4 := by omega
        go_wp2_with fail
        refine (awake_any _).mono ?_
        rintro e w9 ⟨rfl, hb9⟩
        go_wp2
        go_ret
        exact ⟨rfl, L6.out.trans ((btr LL.out hb9).mono L6.out.size)⟩
end Go.Proofs.Ytlfcdjgmegfjoaa
