/- The walk of SeasonExact: it answers true. -/
import Derived.Test.YtlfcdjgmegfjoaaSopen
import Derived.Test.YtlfcdjgmegfjoaaSlsh
namespace Go.Proofs.Ytlfcdjgmegfjoaa
open Go.RowKit Go.Shelf
set_option linter.unusedVariables false
set_option linter.unusedSimpArgs false

/-- The rows of the lowest and the highest curve, so far. -/
def ExL (W4 : World) (s : Int) (l : List (Int × Int)) (v1 v2 dv : Value) (wr : World) : Prop :=
  ∃ d : Nat, d ≤ 365 ∧ dv = .int .i64 d ∧ wr.ownsRow W4.heap.size 3 1 v1 d ((upto (fun j : Nat => lowB s l j) d).map (Value.int .i64)) ∧ wr.ownsRow W4.heap.size 3 1 v2 d ((upto (fun j : Nat => highB s l j) d).map (Value.int .i64)) ∧
    (∀ g, v1.ownBlock = some g → v2.ownBlock ≠ some g) ∧ Below W4.heap.size W4 wr
/-- Behind the two curves: what they show. -/
def ExC (W4 : World) (s : Int) (l : List (Int × Int)) (k0 f u v : Int) (so al : Value) (wx : World) : Prop :=
  so = .bool (shw (lowB s l) k0 v (dayL f u)) ∧ al = .bool (shw (highB s l) k0 v (dayL f u)) ∧ Below W4.heap.size W4 wx
theorem CurV.drew {w : World} {gl : Nat} {g : Int → Int} (h : CurV w gl g) : CurV w.drew gl g := h
theorem curV_of_row {w : World} {n g cap : Nat} {f : Int → Int} (h : w.ownsRow n 3 1 (.slice (some ⟨g, 0, none⟩) 365 cap) 365 ((upto (fun j : Nat => f j) 365).map (Value.int .i64))) : CurV w g f := fun j hj => by
  have := World.ownsRow.cells h rfl j (.int .i64 (f j)) (by simp [upto, hj])
  have e : (⟨g, 0, none⟩ : Addr).add j = ⟨g, j, none⟩ := by unfold Addr.add; split <;> simp_all
  rwa [e] at this

theorem ne_row {v1 v2 : Value} (h : ∀ g, v1.ownBlock = some g → v2.ownBlock ≠ some g) : v2.ownBlock = none ∨ v2.ownBlock ≠ v1.ownBlock := by
  cases e : v2.ownBlock with
  | none => exact .inl rfl
  | some g => exact .inr fun c => h g c.symm e
theorem ne_after {w : World} {n e size k g H : Nat} {v1 v2 : Value} {xs : List Value} (h : ∀ g, v1.ownBlock = some g → v2.ownBlock ≠ some g) (hr : w.ownsRow n e size v2 k xs) (ha : v1.ownBlock = some g ∨ g = H) (hH : w.heap.size ≤ H) : v2.ownBlock ≠ some g := by
  rcases ha with c | rfl
  · exact h g c
  · intro c
    have := (hr.lt _ c).2; omega
theorem ne_after2 {g1 g2 H : Nat} {v2 : Value} (ha : v2.ownBlock = some g2 ∨ g2 = H) (h : v2.ownBlock ≠ some g1) (hl : g1 < H) : g1 ≠ g2 := by
  rintro rfl
  rcases ha with c | c
  · exact h c
  · omega
theorem row_at {w : World} {n g len cap : Nat} {f : Nat → Int} {m : Nat} (h : w.ownsRow n 3 1 (.slice (some ⟨g, 0, none⟩) len cap) len ((upto f len).map (Value.int .i64))) (hm : m < len) : w.cell? ⟨g, m, none⟩ = some (.int .i64 (f m)) := by
  have := World.ownsRow.cells h rfl m (.int .i64 (f m)) (by simp [upto, hm])
  have e : (⟨g, 0, none⟩ : Addr).add m = ⟨g, m, none⟩ := by unfold Addr.add; split <;> simp_all
  rwa [e] at this
set_option maxRecDepth 100000 in
set_option maxHeartbeats 8000000 in
theorem exact_walk (a0 : Option Addr) (len0 cap0 : Nat) (z0 : List Int) (w : World) (hr : IsRow .i64 w a0 len0 cap0 z0) :
    Calls Try.prog 8 #[.slice a0 len0 cap0] w fun e w' => e = .returned (.bool true) ∧ Below w.heap.size w w' := by
  obtain ⟨i0, hi, hz0, hz1, hz2⟩ := info_parts Try.info3
  have HI := Lib.hid hi
  have HZ := Lib.hid (And.intro hz0 (And.intro hz1 hz2))
  clear hi hz0 hz1 hz2
  go_enter Try.func8, Try.ntmps8
  go_wp2_with fail
  refine (new_any _ _ _ _ _ hr).mono ?_
  rintro e w1 ⟨rfl, hb1, hT1⟩
  have L1 := Lib.hid hb1; have T1 := Lib.hid hT1; have zb1 := hT1.lt
  clear hb1 hT1 hr
  go_wp2_with fail
  refine (series_any _ _ T1.out).mono ?_
  rintro e w2 ⟨s, l, sv, rfl, s1, s2, l6, hR, hrow, hnil, hs2⟩
  have L2 := Lib.hid (bos L1.out (Nat.le_refl _) hs2); have T2 := Lib.hid hs2.now
  have z2 := hs2.size
  obtain ⟨a, cap, rfl, hSN, hlc, hcm⟩ := ser_of_row hrow
  have SN2 := Lib.hid hSN; have RI := Lib.hid hR
  unfold maxLen at hcm
  clear hs2 hrow hSN hnil hR L1 T1
  obtain ⟨len, hlen⟩ : ∃ n, l.length = n := ⟨_, rfl⟩
  have HLEN := Lib.hid hlen
  rw [hlen] at l6 hlc ⊢
  clear hlen
  have BS2 := Lib.hid (Blk.fresh (w := w2) (g := w2.heap.size) (t := 25) (cs := #[.int .i64 s, .slice a len cap]) rfl)
  have L2b := Lib.hid (bal L2.out (.cells #[.int .i64 s, .slice a len cap] 25)); have T2b := Lib.hid (T2.out.alloc (.cells #[.int .i64 s, .slice a len cap] 25)); have SN2b := Lib.hid (SN2.out.below ((Below.refl _ _).alloc (Nat.le_refl _) (.cells #[.int .i64 s, .slice a len cap] 25)))
  go_wp2_with fail
  refine (phase_any _ w1.heap.size s a len cap l _ T2b.out zb1 SN2b.out HLEN.out RI.out).mono ?_
  rintro e w3 ⟨k0, f, u, v, rfl, hph, hs3⟩
  have L3 := Lib.hid (bos L2b.out (Nat.le_refl _) hs3); have BS3 := Lib.hid (BS2.out.step hs3 (by omega)); have SN3 := Lib.hid (SN2b.out.step hs3 zb1); have PE := Lib.hid hph; have T3 := Lib.hid hs3.now
  have z3 := hs3.size; (try simp at z3)
  clear hs3 hph L2 T2 SN2 BS2 L2b T2b SN2b
  go_upto_region 4 with fail
  have BP4 := Lib.hid (Blk.fresh (w := w3) (g := w3.heap.size) (t := 27) (cs := #[.int .i64 k0, .int .i64 f, .int .i64 u, .int .i64 v]) rfl)
  have BS4 := Lib.hid (BS3.out.alloc (.cells #[.int .i64 k0, .int .i64 f, .int .i64 u, .int .i64 v] 27)); have SN4 := Lib.hid (SN3.out.1.alloc (.cells #[.int .i64 k0, .int .i64 f, .int .i64 u, .int .i64 v] 27)); have L4 := Lib.hid (bal L3.out (.cells #[.int .i64 k0, .int .i64 f, .int .i64 u, .int .i64 v] 27))
  have hz4 : (w3.alloc (.cells #[.int .i64 k0, .int .i64 f, .int .i64 u, .int .i64 v] 27)).heap.size = w3.heap.size + 1 := by simp
  obtain ⟨W4, hW4⟩ : ∃ W, w3.alloc (.cells #[.int .i64 k0, .int .i64 f, .int .i64 u, .int .i64 v] 27) = W := ⟨_, rfl⟩
  rw [hW4] at BP4 BS4 SN4 L4 hz4 ⊢
  have z4 : w3.heap.size < W4.heap.size := by omega
  clear hW4 hz4 BS3 SN3 L3 T3
  have hs0 : 0 ≤ s := by omega
  go_wp2_with fail
  go_loopw [6, 7, 8] (fun v1 v2 dv wr => ExL W4 s l v1 v2 dv wr) (fun _ _ dv _ => 365 - (intOf dv).toNat)
  case atStart => exact ⟨0, by omega, rfl, World.ownsRow_nil _ _ _ _, World.ownsRow_nil _ _ _ _, by simp [Value.ownBlock], Below.refl _ _⟩
  case round =>
    obtain ⟨d, hd, rfl, hr1, hr2, hne, hB⟩ := hrel
    have R1 := Lib.hid hr1; have R2 := Lib.hid hr2; have NE := Lib.hid hne; have LL := Lib.hid hB
    have BS := Lib.hid (BS4.out.below hB)
    have x0 : wr.cell? ⟨w2.heap.size, 0, none⟩ = some (.int .i64 s) := BS.out.cell 0; have x1 : wr.cell? ⟨w2.heap.size, 1, none⟩ = some (.slice a len cap) := BS.out.cell 1; have yx := BS.out.lt
    have zr := hB.size
    clear hr1 hr2 hne hB
    by_cases hlt : d < 365
    · have hlt' : (d : Int) < 365 := by omega
      have HLO : RowKit.Hid (lowAny s l (d : Int) = lowB s l (d : Int)) := by unfold lowAny; rw [if_pos ⟨RI.out, ⟨by omega, by omega⟩⟩]; exact Lib.hid rfl
      have HHI : RowKit.Hid (highAny s l (d : Int) = highB s l (d : Int)) := by unfold highAny; rw [if_pos ⟨RI.out, ⟨by omega, by omega⟩⟩]; exact Lib.hid rfl
      go_wp2_with fail
      refine (pBounds_any s a len cap l _ (SN4.out.below LL.out) HLEN.out (by omega) (d : Int)).mono ?_
      rw [HLO.out, HHI.out]
      rintro e w5 ⟨rfl, hb5⟩
      have R1 := Lib.hid (own_below R1.out hb5); have R2 := Lib.hid (own_below R2.out hb5); have LL := Lib.hid (btr LL.out hb5); have BS := Lib.hid (BS.out.below hb5)
      have z5 := hb5.size
      clear hb5 x0 x1 yx HLO HHI
      have lh := low_le_high RI.out (d : Int); have rg := low_rng RI.out (d : Int)
      have E1 : RowKit.Hid (upto (fun j : Nat => lowB s l j) (d + 1) = upto (fun j : Nat => lowB s l j) d ++ [lowB s l (d : Int)]) := Lib.hid (upto_succ _ _)
      have E2 : RowKit.Hid (upto (fun j : Nat => highB s l j) (d + 1) = upto (fun j : Nat => highB s l j) d ++ [highB s l (d : Int)]) := Lib.hid (upto_succ _ _)
      have P1 : RowKit.Hid (∀ m : Nat, d = m + 1 → lowB s l (d : Int) - lowB s l (m : Int) ≤ s ∧ lowB s l (m : Int) - lowB s l (d : Int) ≤ s ∧ highB s l (d : Int) - highB s l (m : Int) ≤ s ∧ highB s l (m : Int) - highB s l (d : Int) ≤ s ∧ 0 ≤ lowB s l (m : Int) ∧ highB s l (m : Int) ≤ 1000 ∧ lowB s l (m : Int) ≤ highB s l (m : Int)) := Lib.hid fun m hm => by
        have q1 := low_lip (l := l) hs0 (d : Int) (m : Int); have q2 := low_lip (l := l) hs0 (m : Int) (d : Int); have q3 := high_lip (l := l) hs0 (d : Int) (m : Int); have q4 := high_lip (l := l) hs0 (m : Int) (d : Int)
        have e1 : dist (d : Int) (m : Int) = 1 := by unfold dist; omega
        have e2 : dist (m : Int) (d : Int) = 1 := by unfold dist; omega
        rw [e1] at q1 q3; rw [e2] at q2 q4
        have q5 := low_rng RI.out (m : Int); have q6 := low_le_high RI.out (m : Int)
        exact ⟨by omega, by omega, by omega, by omega, q5.1, q5.2, q6⟩
      obtain ⟨lo, hlo⟩ : ∃ z, lowB s l (d : Int) = z := ⟨_, rfl⟩
      obtain ⟨hi, hhi⟩ : ∃ z, highB s l (d : Int) = z := ⟨_, rfl⟩
      rw [hlo] at lh rg E1 P1 ⊢; rw [hhi] at lh rg E2 P1 ⊢
      obtain ⟨rg1, rg2⟩ := rg
      clear hlo hhi
      go_wp2_with first | (at_builtin; refine wpList_append_lies _ rfl (.tmp 31) (.tmp 33) 22 rfl W4.heap.size 3 i0 (.int .i64 0) 1 8 Try.underlying22 HI.out HZ.out.1 HZ.out.2.1 HZ.out.2.2 rfl (by decide) _ _ _ rfl (R1.out.alloc _) ⟨w5.heap.size, 0, none⟩ 1 1 [.int .i64 lo] rfl rfl (cell_one_new _ _ _) (by simp [Value.oneCell']) (by omega) (by unfold maxLen; omega) (by omega) (by simp; omega) _ rfl ?_; intro g1 cap1 w6 ho1 hg1 ha1 hl1; have hq := row_app R1.out (by omega) hg1; have LL := Lib.hid (LL.out.trans hq); have z6 := hq.size; have NE1 := ne_after NE.out R2.out ha1 (by simp <;> omega); have R2 := Lib.hid ((R2.out.alloc _).kept hg1 (ne_row NE.out)); have R1 := Lib.hid ho1; clear hq ho1 hg1 ha1) | (at_builtin; refine wpList_append_lies _ rfl (.tmp 35) (.tmp 37) 22 rfl W4.heap.size 3 i0 (.int .i64 0) 1 8 Try.underlying22 HI.out HZ.out.1 HZ.out.2.1 HZ.out.2.2 rfl (by decide) _ _ _ rfl (R2.out.alloc _) ⟨w6.heap.size, 0, none⟩ 1 1 [.int .i64 hi] rfl rfl (cell_one_new _ _ _) (by simp [Value.oneCell']) (by omega) (by unfold maxLen; omega) (by omega) (by simp; omega) _ rfl ?_; intro g2 cap2 w7 ho2 hg2 ha2 hl2; have hq := row_app R2.out (by omega) hg2; have LL := Lib.hid (LL.out.trans hq); have z7 := hq.size; have NE2 := ne_after2 ha2 NE1 (by simp <;> omega); have R1 := Lib.hid ((R1.out.alloc _).kept hg2 (.inr (fun e => NE1 e.symm))); have R2 := Lib.hid ho2; clear hq ho2 hg2 ha2 NE1)
      have R1 : RowKit.Hid (w7.ownsRow W4.heap.size 3 1 (.slice (some ⟨g1, 0, none⟩) (d + 1) cap1) (d + 1) ((upto (fun j : Nat => lowB s l j) (d + 1)).map (Value.int .i64))) := Lib.hid (by rw [E1.out, List.map_append]; exact R1.out)
      have R2 : RowKit.Hid (w7.ownsRow W4.heap.size 3 1 (.slice (some ⟨g2, 0, none⟩) (d + 1) cap2) (d + 1) ((upto (fun j : Nat => highB s l j) (d + 1)).map (Value.int .i64))) := Lib.hid (by rw [E2.out, List.map_append]; exact R2.out)
      have BS := Lib.hid (BS4.out.below LL.out)
      have x0 : w7.cell? ⟨w2.heap.size, 0, none⟩ = some (.int .i64 s) := BS.out.cell 0; have yx := BS.out.lt
      have NEF : RowKit.Hid (∀ g, (Value.slice (some ⟨g1, 0, none⟩) (d + 1) cap1).ownBlock = some g → (Value.slice (some ⟨g2, 0, none⟩) (d + 1) cap2).ownBlock ≠ some g) := Lib.hid fun g h1 h2 => by simp [Value.ownBlock] at h1 h2; omega
      have hlh : decide (hi < lo) = false := by simp; omega
      rcases Nat.eq_zero_or_pos d with hd0 | hd0
      · subst hd0
        go_quiet (fail)
        go_wp2
        exact ⟨⟨1, by omega, rfl, R1.out, R2.out, NEF.out, ⟨LL.out.os, LL.out.tape, LL.out.output, LL.out.size, LL.out.block⟩⟩, by simp [intOf]⟩
      · obtain ⟨m, rfl⟩ : ∃ m, d = m + 1 := ⟨d - 1, by omega⟩
        have c1 : w7.cell? ⟨g1, m, none⟩ = some (.int .i64 (lowB s l (m : Int))) := row_at R1.out (by omega)
        have c2 : w7.cell? ⟨g2, m, none⟩ = some (.int .i64 (highB s l (m : Int))) := row_at R2.out (by omega)
        obtain ⟨q1, q2, q3, q4, q5, q6, q7⟩ := P1.out m rfl
        generalize lowB s l (m : Int) = lm at c1 q1 q2 q5 q7
        generalize highB s l (m : Int) = hm at c2 q3 q4 q6 q7
        have i1 : IntKind.i64.wrap (m : Int) = (m : Int) := IntWalk.i64_in _ (by omega)
        have j0 : (0 : Int) ≤ (m : Int) := by omega
        have j1 : (m : Int) < (m : Int) + 1 + 1 := by omega
        have i2 : IntKind.i64.wrap (lo - lm) = lo - lm := IntWalk.i64_in _ (by omega)
        have i3 : IntKind.i64.wrap (lm - lo) = lm - lo := IntWalk.i64_in _ (by omega)
        have i4 : IntKind.i64.wrap (hi - hm) = hi - hm := IntWalk.i64_in _ (by omega)
        have i5 : IntKind.i64.wrap (hm - hi) = hm - hi := IntWalk.i64_in _ (by omega)
        have k1 : decide (s < lo - lm) = false := by simp; omega
        have k2 : decide (s < lm - lo) = false := by simp; omega
        have k3 : decide (s < hi - hm) = false := by simp; omega
        have k4 : decide (s < hm - hi) = false := by simp; omega
        by_cases m1 : lo - lm < lm - lo <;> by_cases m2 : hi - hm < hm - hi
        all_goals
          go_quiet (fail)
          go_wp2
          exact ⟨⟨m + 1 + 1, by omega, by go_num, R1.out, R2.out, NEF.out, ⟨LL.out.os, LL.out.tape, LL.out.output, LL.out.size, LL.out.block⟩⟩, by simp [intOf]; omega⟩
    · have hd3 : d = 365 := by omega
      subst hd3
      have hge : ¬ ((365 : Nat) : Int) < 365 := by omega
      obtain ⟨g1, cap1, rfl, _, hl1⟩ := R1.out.form (by omega)
      obtain ⟨g2, cap2, rfl, _, hl2⟩ := R2.out.form (by omega)
      have C1 := Lib.hid (curV_of_row (f := lowB s l) R1.out); have C2 := Lib.hid (curV_of_row (f := highB s l) R2.out)
      have BP := Lib.hid (BP4.out.below LL.out)
      have p0 := BP.out.cell 0; have p1 := BP.out.cell 1; have p2 := BP.out.cell 2; have p3 := BP.out.cell 3; have yp := BP.out.lt
      (try simp at p0 p1 p2 p3)
      clear R1 R2 NE x0 x1 yx BS
      go_upto_region 12 with fail
      go_cut [11, 12] (fun so al wx => ExC W4 s l k0 f u v so al wx)
      case first =>
        go_region_held3 (fun w' => w'.cell? ⟨w3.heap.size, 0, none⟩ = some (.int .i64 k0) ∧ w'.cell? ⟨w3.heap.size, 1, none⟩ = some (.int .i64 f) ∧ w'.cell? ⟨w3.heap.size, 2, none⟩ = some (.int .i64 u) ∧ w'.cell? ⟨w3.heap.size, 3, none⟩ = some (.int .i64 v)) (simp [go_sem, *])
          (first
          | (go_at_call 28; (with_reducible refine (lshows_any g1 cap1 (lowB s l) k0 f u v _ ?_ PE.out).mono ?_); (first | exact C1.out | exact C1.out.drew); rintro e w8 ⟨rfl, hb8⟩; have z3 := hb8.size; (try simp at z3); have LL := Lib.hid (show Below W4.heap.size W4 _ from (by first | exact btr LL.out hb8 | exact btr (bdr LL.out) hb8)); have C1 := Lib.hid (show CurV _ g1 (lowB s l) from (by first | exact C1.out.below hb8 | exact C1.out.drew.below hb8)); have C2 := Lib.hid (show CurV _ g2 (highB s l) from (by first | exact C2.out.below hb8 | exact C2.out.drew.below hb8)); have BP := Lib.hid (show Blk _ w3.heap.size 27 #[.int .i64 k0, .int .i64 f, .int .i64 u, .int .i64 v] from (by first | exact BP.out.below hb8 | exact BP.out.drew.below hb8)); have p0 := BP.out.cell 0; have p1 := BP.out.cell 1; have p2 := BP.out.cell 2; have p3 := BP.out.cell 3; have yp := BP.out.lt; (try simp at p0 p1 p2 p3); clear hb8)
          | (go_at_call 28; (with_reducible refine (lshows_any g2 cap2 (highB s l) k0 f u v _ ?_ PE.out).mono ?_); (first | exact C2.out | exact C2.out.drew); rintro e w9 ⟨rfl, hb9⟩; have z3 := hb9.size; (try simp at z3); have LL := Lib.hid (show Below W4.heap.size W4 _ from (by first | exact btr LL.out hb9 | exact btr (bdr LL.out) hb9)); have C1 := Lib.hid (show CurV _ g1 (lowB s l) from (by first | exact C1.out.below hb9 | exact C1.out.drew.below hb9)); have C2 := Lib.hid (show CurV _ g2 (highB s l) from (by first | exact C2.out.below hb9 | exact C2.out.drew.below hb9)); have BP := Lib.hid (show Blk _ w3.heap.size 27 #[.int .i64 k0, .int .i64 f, .int .i64 u, .int .i64 v] from (by first | exact BP.out.below hb9 | exact BP.out.drew.below hb9)); have p0 := BP.out.cell 0; have p1 := BP.out.cell 1; have p2 := BP.out.cell 2; have p3 := BP.out.cell 3; have yp := BP.out.lt; (try simp at p0 p1 p2 p3); clear hb9))
        all_goals (go_wp2_with fail)
        all_goals go_meet
        all_goals
          (case rel => exact ⟨rfl, rfl, LL.out⟩)
      case rest =>
        obtain ⟨rfl, rfl, hB⟩ := hcut
        have LL := Lib.hid hB
        have BP := Lib.hid (BP4.out.below hB); have BS := Lib.hid (BS4.out.below hB)
        have p0 := BP.out.cell 0; have p1 := BP.out.cell 1; have p2 := BP.out.cell 2; have p3 := BP.out.cell 3; have yp := BP.out.lt
        have x0 := BS.out.cell 0; have x1 := BS.out.cell 1; have yx := BS.out.lt
        (try simp at p0 p1 p2 p3 x0 x1)
        have zc := hB.size
        clear hB
        have HD : RowKit.Hid (decP s l k0 f u v = if shw (lowB s l) k0 v (dayL f u) && shw (highB s l) k0 v (dayL f u) then 1 else if !shw (lowB s l) k0 v (dayL f u) && !shw (highB s l) k0 v (dayL f u) then -1 else 0) := Lib.hid (dec_eq RI.out PE.out)
        generalize shw (lowB s l) k0 v (dayL f u) = A at HD ⊢
        generalize shw (highB s l) k0 v (dayL f u) = B at HD ⊢
        cases A <;> cases B
        all_goals
          go_wp2_with fail
          refine (pDecide_ok s a len cap l _ (SN4.out.below LL.out) HLEN.out (by omega) k0 f u v RI.out PE.out).mono ?_
          rw [HD.out]
          rintro e w10 ⟨rfl, hb10⟩
          go_wp2_with fail
          refine (awake_any _).mono ?_
          rintro e w11 ⟨rfl, hb11⟩
          go_wp2
          go_ret
          exact ⟨rfl, L4.out.trans ((btr (btr LL.out hb10) hb11).mono L4.out.size)⟩
end Go.Proofs.Ytlfcdjgmegfjoaa
