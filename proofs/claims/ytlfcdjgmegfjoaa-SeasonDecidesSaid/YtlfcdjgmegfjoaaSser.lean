/- The series that the second keeper makes: always a right one. -/
import Derived.Test.YtlfcdjgmegfjoaaSrmat
namespace Go.Proofs.Ytlfcdjgmegfjoaa
open Go.RowKit Go.Shelf
set_option linter.unusedVariables false
set_option linter.unusedSimpArgs false

theorem ob_snoc_lt {l : List (Int × Int)} {o : Int × Int} {j : Nat} (h : j < l.length) : ob (l ++ [o]) j = ob l j := by simp [ob, List.getElem?_append, h]
theorem ob_snoc_end {l : List (Int × Int)} {o : Int × Int} : ob (l ++ [o]) l.length = o := by simp [ob]
theorem errAt_snoc {s : Int} {l : List (Int × Int)} {o : Int × Int} {j : Nat} (h : j < l.length) : errAt s (l ++ [o]) j = errAt s l j := by
  unfold errAt
  rw [ob_snoc_lt h, ob_snoc_lt (show j - 1 < l.length by omega)]
theorem chkUp_congr {e e' : Nat → Int} {n : Nat} (h : ∀ j, j < n → e j = e' j) : chkUp e n = chkUp e' n := by
  induction n with
  | zero => rfl
  | succ n ih => simp only [chkUp]; rw [ih (fun j hj => h j (by omega)), h n (by omega)]
theorem dist_comm (a b : Int) : dist a b = dist b a := by unfold dist; omega
/-- One more observation of a right series. -/
theorem right_snoc {s : Int} {l : List (Int × Int)} {d g : Int} (h : chkUp (errAt s l) l.length = 0) (hd : dayOK d) (hg : greenOK g)
    (hl : 0 < l.length → (ob l (l.length - 1)).1 < d ∧ dist g (ob l (l.length - 1)).2 ≤ s * (d - (ob l (l.length - 1)).1)) : chkUp (errAt s (l ++ [(d, g)])) (l ++ [(d, g)]).length = 0 := by
  rw [List.length_append, List.length_singleton]
  refine chkUp_step ?_ ?_
  · rw [chkUp_congr fun j hj => errAt_snoc hj]; exact h
  · unfold errAt
    rw [ob_snoc_end, if_neg (fun c => c ⟨hd, hg⟩)]
    by_cases h0 : l.length = 0
    · rw [if_pos h0]
    · rw [if_neg h0, ob_snoc_lt (show l.length - 1 < l.length by omega)]
      obtain ⟨h1, h2⟩ := hl (by omega)
      rw [if_neg (by show ¬ d ≤ _; omega), if_neg (by show ¬ s * (d - _) < dist g _; omega)]
def encO (l : List (Int × Int)) : List Value := l.flatMap fun o => [.int .i64 o.1, .int .i64 o.2]
theorem encO_length (l : List (Int × Int)) : (encO l).length = l.length * 2 := by
  induction l with
  | nil => rfl
  | cons o l ih => simp [encO] at ih ⊢; omega
theorem encO_snoc (l : List (Int × Int)) (o : Int × Int) : encO (l ++ [o]) = encO l ++ [.int .i64 o.1, .int .i64 o.2] := by simp [encO]
theorem encO_at (l : List (Int × Int)) (j : Nat) (h : j < l.length) : (encO l)[j * 2]? = some (.int .i64 (ob l j).1) ∧ (encO l)[j * 2 + 1]? = some (.int .i64 (ob l j).2) := by
  induction l generalizing j with
  | nil => simp at h
  | cons o l ih =>
    cases j with
    | zero => simp [encO, ob]
    | succ j =>
      have := ih j (by simpa using h)
      have e : encO (o :: l) = .int .i64 o.1 :: .int .i64 o.2 :: encO l := by simp [encO]
      have e2 : ob (o :: l) (j + 1) = ob l j := by simp [ob]
      rw [e, e2, show (j + 1) * 2 = j * 2 + 1 + 1 by omega]
      simpa using this
/-- The observations lie in memory at n or above. -/
def SerN (n : Nat) (w : World) (a : Option Addr) (l : List (Int × Int)) : Prop := Ser w a l ∧ ∀ blk off : Nat, a = some ⟨blk, off, none⟩ → 0 < l.length → n ≤ blk
theorem SerN.step {n b : Nat} {w w' : World} {a : Option Addr} {l : List (Int × Int)} (h : SerN n w a l) (hs : Steps1 b w w') (hb : b < n) : SerN n w' a l :=
  ⟨fun j hj => by
    obtain ⟨k, off, e, h1, h2⟩ := h.1 j hj
    have := h.2 k off e (by omega)
    exact ⟨k, off, e, sc1 hs h1 (by omega), sc1 hs h2 (by omega)⟩, h.2⟩
theorem SerN.below {n : Nat} {w w' : World} {a : Option Addr} {l : List (Int × Int)} (h : SerN n w a l) (hb : Below w.heap.size w w') : SerN n w' a l := ⟨h.1.below hb, h.2⟩
theorem ser_of_row {w : World} {n : Nat} {v : Value} {l : List (Int × Int)} (h : w.ownsRow n 34 2 v l.length (encO l)) : ∃ a cap, v = .slice a l.length cap ∧ SerN n w a l ∧ l.length ≤ cap ∧ cap ≤ maxLen := by
  have hc := fun g hg => World.ownsRow.cells h (g := g) hg
  rcases h.2 with ⟨rfl, h0⟩ | ⟨g, cap, cur, rfl, hb, _, h3, h4, _⟩
  · exact ⟨none, 0, by rw [h0], ⟨fun j hj => by omega, fun _ _ _ hl => by omega⟩, by omega, by unfold maxLen; omega⟩
  · refine ⟨some ⟨g, 0, none⟩, cap, rfl, ⟨fun j hj => ⟨g, 0, rfl, ?_, ?_⟩, fun k off e _ => by cases e; exact hb⟩, h3, h4⟩
    · have := hc g rfl _ _ (encO_at l j hj).1
      have e : (⟨g, 0, none⟩ : Addr).add (j * 2) = ⟨g, 0 + j * 2, none⟩ := by unfold Addr.add; split <;> simp_all
      rwa [e] at this
    · have := hc g rfl _ _ (encO_at l j hj).2
      have e : (⟨g, 0, none⟩ : Addr).add (j * 2 + 1) = ⟨g, 0 + j * 2 + 1, none⟩ := by unfold Addr.add; split <;> simp_all
      rwa [e] at this
theorem cell_two_new (w : World) (x y : Value) (t : TypeId) : ∀ j u, [x, y][j]? = some u → (w.alloc (.cells #[x, y] t)).cell? ((⟨w.heap.size, 0, none⟩ : Addr).add j) = some u := fun j u h => by
  have hb : Blk (w.alloc (.cells #[x, y] t)) w.heap.size t #[x, y] := Blk.new w t _
  match j, h with
  | 0, h => cases h; exact hb.cell 0
  | 1, h => cases h; exact hb.cell 1
theorem Try.infoO : (Try.prog.info? 34).map (fun i => (i.zero, i.size, i.bytes)) = some (some (.agg #[.int .i64 0, .int .i64 0]), 2, 16) := by kernel_rfl

theorem own_ne {w : World} {n k : Nat} {e : TypeId} {size m : Nat} {v : Value} {xs : List Value} (h : w.ownsRow n e size v m xs) (hk : k < n) : v.ownBlock = none ∨ v.ownBlock ≠ some k := by
  refine .inr fun e => ?_
  have := (h.lt k e).1; omega
theorem grownBy_set (W : World) (b o : Nat) (v : Value) : W.grownBy (W.setCell ⟨b, o, none⟩ v) (some b) := ⟨rfl, rfl, rfl, by simp [World.setCell], fun i _ hn => Below.heap_setCell _ _ _ _ (by simpa using hn)⟩
theorem chkS_of {s : Int} {l : List (Int × Int)} (h1 : 1 ≤ s) (h2 : s ≤ 100) (h3 : l.length ≤ 60) (h : chkUp (errAt s l) l.length = 0) : chkS s l = 0 := by
  unfold chkS; rw [if_neg (by omega), if_neg (by omega)]; exact h
/-- A write above the floor n of the call's own. -/
theorem stq {b n : Nat} {a w w1 : World} (h : Steps1 b a w) (k : Below n w w1) (hn : a.heap.size ≤ n) : Steps1 b a w1 :=
  have hz := h.size
  have hk := k.size
  ⟨h.was, ⟨k.os.trans h.grown.os, k.tape.trans h.grown.tape, k.output.trans h.grown.output, Nat.le_trans hz hk, fun i hi hne => (k.block i (by omega)).trans (h.grown.block i hi hne)⟩,
    h.now.keep fun i hi => k.block i (by have := h.lt; omega)⟩
/-- What Series answers: a right series, its observations in a new row. -/
def SerPost (b : Nat) (w : World) (e : Ending) (w' : World) : Prop :=
  ∃ (s : Int) (l : List (Int × Int)) (v : Value), e = .returned (.agg #[.int .i64 s, v]) ∧ 1 ≤ s ∧ s ≤ 20 ∧ l.length ≤ 6 ∧ chkS s l = 0 ∧ w'.ownsRow w.heap.size 34 2 v l.length (encO l) ∧ (l = [] → v = .slice none 0 0) ∧ Steps1 b w w'

structure SMk (b n0 B3 : Nat) (w : World) (s : Int) (d g n : Value) (wr : World) : Prop where
  ex : ∃ (dz gz : Int) (nn : Nat) (l : List (Int × Int)) (v : Value), d = .int .i64 dz ∧ g = .int .i64 gz ∧ n = .int .i64 nn ∧ nn + l.length ≤ 6 ∧ chkUp (errAt s l) l.length = 0 ∧ 0 ≤ dz ∧ dz ≤ 404 ∧ greenOK gz ∧
    (0 < l.length → (ob l (l.length - 1)).1 < dz ∧ dist gz (ob l (l.length - 1)).2 ≤ s * (dz - (ob l (l.length - 1)).1)) ∧ Blk wr w.heap.size 25 #[.int .i64 0, .slice none 0 0] ∧ Blk wr B3 25 #[.int .i64 s, v] ∧ wr.ownsRow n0 34 2 v l.length (encO l) ∧ (l = [] → v = .slice none 0 0)
  steps : Steps1 b w wr

set_option maxRecDepth 100000 in
set_option maxHeartbeats 4000000 in
theorem series_any (b : Nat) (w : World) (hT : Tape w b) : Calls Try.prog 11 #[.pointer (some ⟨b, 0, none⟩)] w (SerPost b w) := by
  obtain ⟨i0, hi, hz0, hz1, hz2⟩ := info_parts Try.infoO
  have HI := Lib.hid hi
  have HZ := Lib.hid (And.intro hz0 (And.intro hz1 hz2))
  clear hi hz0 hz1 hz2
  have hb0 := hT.lt
  have T0 := Lib.hid (Steps1.refl hT)
  clear hT
  go_enter Try.func11, Try.ntmps11
  go_wp2_with fail
  refine (range_any _ _ _ _ (T0.out.now.alloc _) (by omega) (by omega) (by omega)).mono ?_; rintro e w1 ⟨s, s1, s2, rfl, hs1⟩
  have S1 := Lib.hid (sts (sal T0.out _) hs1)
  have z1 := hs1.size; (try simp at z1)
  have R1 := Lib.hid ((Blk.fresh (w := w) (g := w.heap.size) (t := 25) (cs := #[.int .i64 0, .slice none 0 0]) rfl).step hs1 (by omega))
  clear hs1
  have S2 := Lib.hid (sal S1.out (.cells #[.int .i64 s, .slice none 0 0] 25))
  have R2 := Lib.hid (R1.out.alloc (.cells #[.int .i64 s, .slice none 0 0] 25))
  have X2 := Lib.hid (Blk.fresh (w := w1) (g := w1.heap.size) (t := 25) (cs := #[.int .i64 s, .slice none 0 0]) rfl)
  go_wp2_with fail
  refine (next_any _ _ _ S2.out.now (by omega) (by omega)).mono ?_; rintro e w3 ⟨dz, d1, d2, rfl, hs3⟩
  have S3 := Lib.hid (sts S2.out hs3); have X3 := Lib.hid (X2.out.step hs3 (by omega)); have R3 := Lib.hid (R2.out.step hs3 (by omega)); have z3 := hs3.size; (try simp at z3)
  clear hs3
  go_wp2_with fail
  refine (next_any _ _ _ S3.out.now (by omega) (by omega)).mono ?_; rintro e w4 ⟨gz, g1, g2, rfl, hs4⟩
  have S4 := Lib.hid (sts S3.out hs4); have X4 := Lib.hid (X3.out.step hs4 (by omega)); have R4 := Lib.hid (R3.out.step hs4 (by omega)); have z4 := hs4.size; (try simp at z4)
  clear hs4
  go_wp2_with fail
  refine (next_any _ _ _ S4.out.now (by omega) (by omega)).mono ?_; rintro e w5 ⟨nz, n1, n2, rfl, hs5⟩
  have S5 := Lib.hid (sts S4.out hs5); have X5 := Lib.hid (X4.out.step hs5 (by omega)); have R5 := Lib.hid (R4.out.step hs5 (by omega)); have z5 := hs5.size; (try simp at z5)
  clear hs5
  obtain ⟨nn, rfl⟩ := Int.eq_ofNat_of_zero_le n1
  clear X2 X3 X4 S2 S3 S4 R1 R2 R3 R4
  go_wp2_with fail
  go_loopw [4, 5, 6] (fun d g n wr => SMk b (w1.heap.size + 1) w1.heap.size w s d g n wr) (fun _ _ n _ => (intOf n).toNat)
  case atStart => exact ⟨⟨dz, gz, nn, [], _, rfl, rfl, rfl, by simp; omega, rfl, d1, by omega, ⟨g1, by omega⟩, by simp, R5.out, X5.out, World.ownsRow_nil _ _ _ _, fun _ => rfl⟩, S5.out⟩
  case round =>
    clear S5 X5 R5 g1 g2 d1 d2 n1 n2 z3 z4 z5
    obtain ⟨⟨dz, gz, nn, l, v, rfl, rfl, rfl, hnl, hch, d1, d2, hg, hlast, hR0, hX, hR, hnil⟩, hS⟩ := hrel
    have g1 := hg.1; have g2 := hg.2
    have SS := Lib.hid hS; have XX := Lib.hid hX; have RR := Lib.hid hR; have CH := Lib.hid hch; have LA := Lib.hid hlast; have R0 := Lib.hid hR0; have NI := Lib.hid hnil
    have x0 := hX.cell 0; have x1 := hX.cell 1; have yx := hX.lt; have f1 := hX.free 1
    (try simp at x0 x1)
    clear hS hX hR hch hlast hg hR0 hnil
    by_cases hn : 0 < nn
    · have hn' : (0 : Int) < (nn : Int) := by omega
      by_cases hd : dz < 365
      · go_wp2_with (at_builtin; refine wpList_append_own _ rfl _ _ 23 rfl (w1.heap.size + 1) 34 i0 (.agg #[.int .i64 0, .int .i64 0]) 2 16 Try.underlying23 HI.out HZ.out.1 HZ.out.2.1 HZ.out.2.2 rfl (by decide) _ _ _ rfl (RR.out.alloc _) ⟨wr.heap.size, 0, none⟩ 1 1 [.int .i64 dz, .int .i64 gz] rfl rfl (cell_two_new _ _ _ _) (by simp [Value.oneCell']) (by unfold maxLen; omega) (by omega) (by simp; omega) ?_; intro v2 w9 hown' hgrow _; obtain ⟨g', cap', rfl⟩ := ownsRow_succ hown'; have hq := row_app RR.out (by omega) hgrow; have X9 : Blk w9 w1.heap.size 25 #[.int .i64 s, v] := (hq.block _ (by omega)).trans XX.out; have R9 := Lib.hid ((hq.block _ (by omega)).trans R0.out); have f9 := X9.free 1; have c9 : w9.cell? ⟨w1.heap.size, 1, none⟩ = some v := X9.cell 1; have y9 := X9.lt; have zq := hq.size; have S9 := Lib.hid (stq SS.out hq (by omega)); have W9 := Lib.hid hown'; replace X9 := Lib.hid X9; clear hown' hgrow hq)
        have S10 := Lib.hid (sst S9.out w1.heap.size 1 (.slice (some ⟨g', 0, none⟩) (l.length + 1) cap') (by omega))
        have X10 := Lib.hid (X9.out.put 1 (.slice (some ⟨g', 0, none⟩) (l.length + 1) cap'))
        have R10 : RowKit.Hid (Blk (w9.setCell ⟨w1.heap.size, 1, none⟩ (.slice (some ⟨g', 0, none⟩) (l.length + 1) cap')) w.heap.size 25 #[.int .i64 0, .slice none 0 0]) := Lib.hid (Blk.far R9.out _ _ _ (by omega))
        have W10 := Lib.hid (W9.out.kept (grownBy_set w9 w1.heap.size 1 (.slice (some ⟨g', 0, none⟩) (l.length + 1) cap')) (.inr (by have := (W9.out.lt g' rfl).1; simp [Value.ownBlock]; omega)))
        have x10 := X10.out.cell 0; have f10 := X10.out.lt
        (try simp at x10 f10)
        clear X9 S9 W9 R9 XX SS RR R0 x0 x1 yx f1 f9 c9
        go_wp2_with fail
        refine (range_any _ _ _ _ S10.out.now (by omega) (by omega) (by omega)).mono ?_; rintro e w11 ⟨by_, y1, y2, rfl, hs11⟩
        have S11 := Lib.hid (sts S10.out hs11); have X11 := Lib.hid (X10.out.step hs11 (by omega)); have R11 := Lib.hid (R10.out.step hs11 (by omega)); have z11 := hs11.size; (try simp at z11)
        have W11 := Lib.hid (W10.out.kept hs11.grown (.inr (by have := (W10.out.lt g' rfl).1; simp [Value.ownBlock]; omega)))
        have x11 : w11.cell? ⟨w1.heap.size, 0, none⟩ = some (.int .i64 s) := X11.out.cell 0
        clear hs11 X10 R10 S10 W10 x10
        have p1 : 0 ≤ s * by_ := Int.mul_nonneg (by omega) (by omega)
        have p2 : s * by_ ≤ 20 * 40 := Int.mul_le_mul s2 y2 (by omega) (by omega)
        have m1 : wrap64 (s * by_) = s * by_ := IntWalk.wrap64_in _ (by omega)
        have m2 : wrap64 (-s * by_) = -(s * by_) := by rw [Int.neg_mul]; exact IntWalk.wrap64_in _ (by omega)
        go_wp2_with fail
        refine (range_any _ _ _ _ S11.out.now (by omega) (by omega) (by omega)).mono ?_; rintro e w12 ⟨r, r1, r2, rfl, hs12⟩
        have S12 := Lib.hid (sts S11.out hs12); have X12 := Lib.hid (X11.out.step hs12 (by omega)); have R12 := Lib.hid (R11.out.step hs12 (by omega))
        have W12 := Lib.hid (W11.out.kept hs12.grown (.inr (by have := (W11.out.lt g' rfl).1; simp [Value.ownBlock]; omega)))
        clear hs12 X11 R11 S11 W11 x11 m1 m2
        have q1 := p1
        obtain ⟨p, hp⟩ : ∃ p, s * by_ = p := ⟨_, rfl⟩
        have HP := Lib.hid hp
        rw [hp] at p1 p2 r1 r2
        clear hp q1
        go_wp2
        all_goals
          go_roundw
          case rel =>
            refine ⟨⟨dz + by_, _, nn - 1, l ++ [(dz, gz)], _, rfl, rfl, by congr 1; omega, by simp; omega, right_snoc CH.out ⟨d1, by omega⟩ ⟨g1, g2⟩ LA.out, by omega, by omega, ⟨?_, ?_⟩, fun _ => ?_, R12.out, by simpa using X12.out, by simpa [encO_snoc] using W12.out, by simp⟩, S12.out⟩
            · (try split) <;> omega
            · (try split) <;> omega
            · rw [List.length_append, List.length_singleton, Nat.add_sub_cancel, ob_snoc_end]
              refine ⟨by show dz < _; omega, ?_⟩
              show dist _ gz ≤ s * (dz + by_ - dz)
              rw [show dz + by_ - dz = by_ by omega, HP.out]
              unfold dist
              (try split) <;> omega
          case measure => simp [intOf]; omega
      · obtain ⟨a, cap, rfl, _⟩ := ser_of_row RR.out
        have r0 := R0.out.free 0; have r1 := R0.out.free 1; have q0 := R0.out.lt
        have e0 : wr.cell? ⟨w.heap.size, 0, none⟩ = some (.int .i64 0) := R0.out.cell 0; have e1 : wr.cell? ⟨w.heap.size, 1, none⟩ = some (.slice none 0 0) := R0.out.cell 1
        go_wp2
        have RF := (R0.out.put 0 (.int .i64 s)).put 1 (.slice a l.length cap)
        have v0 : ((wr.setCell ⟨w.heap.size, 0, none⟩ (.int .i64 s)).setCell ⟨w.heap.size, 1, none⟩ (.slice a l.length cap)).cell? ⟨w.heap.size, 0, none⟩ = some (.int .i64 s) := RF.cell 0
        have v1 : ((wr.setCell ⟨w.heap.size, 0, none⟩ (.int .i64 s)).setCell ⟨w.heap.size, 1, none⟩ (.slice a l.length cap)).cell? ⟨w.heap.size, 1, none⟩ = some (.slice a l.length cap) := RF.cell 1
        refine bodyPost_ret (v := .agg #[.int .i64 s, .slice a l.length cap]) (by simp [results, Try.results11, go_sem, v0, v1]) rfl ?_
        exact ⟨s, l, _, rfl, s1, s2, by omega, chkS_of s1 (by omega) (by omega) CH.out, ownsRow_base ((RR.out.kept (grownBy_set wr w.heap.size 0 _) (own_ne RR.out (by omega))).kept (grownBy_set _ w.heap.size 1 _) (own_ne RR.out (by omega))) (by omega), NI.out, sst (sst SS.out _ _ _ (by omega)) _ _ _ (by omega)⟩
    · obtain ⟨a, cap, rfl, _⟩ := ser_of_row RR.out
      have r0 := R0.out.free 0; have r1 := R0.out.free 1; have q0 := R0.out.lt
      have e0 : wr.cell? ⟨w.heap.size, 0, none⟩ = some (.int .i64 0) := R0.out.cell 0; have e1 : wr.cell? ⟨w.heap.size, 1, none⟩ = some (.slice none 0 0) := R0.out.cell 1
      go_wp2
      have RF := (R0.out.put 0 (.int .i64 s)).put 1 (.slice a l.length cap)
      have v0 : ((wr.setCell ⟨w.heap.size, 0, none⟩ (.int .i64 s)).setCell ⟨w.heap.size, 1, none⟩ (.slice a l.length cap)).cell? ⟨w.heap.size, 0, none⟩ = some (.int .i64 s) := RF.cell 0
      have v1 : ((wr.setCell ⟨w.heap.size, 0, none⟩ (.int .i64 s)).setCell ⟨w.heap.size, 1, none⟩ (.slice a l.length cap)).cell? ⟨w.heap.size, 1, none⟩ = some (.slice a l.length cap) := RF.cell 1
      refine bodyPost_ret (v := .agg #[.int .i64 s, .slice a l.length cap]) (by simp [results, Try.results11, go_sem, v0, v1]) rfl ?_
      exact ⟨s, l, _, rfl, s1, s2, by omega, chkS_of s1 (by omega) (by omega) CH.out, ownsRow_base ((RR.out.kept (grownBy_set wr w.heap.size 0 _) (own_ne RR.out (by omega))).kept (grownBy_set _ w.heap.size 1 _) (own_ne RR.out (by omega))) (by omega), NI.out, sst (sst SS.out _ _ _ (by omega)) _ _ _ (by omega)⟩

end Go.Proofs.Ytlfcdjgmegfjoaa
