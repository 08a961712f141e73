/- The phase that the second keeper makes: always a right one. -/
import Derived.Test.YtlfcdjgmegfjoaaSser
namespace Go.Proofs.Ytlfcdjgmegfjoaa
open Go.RowKit Go.Shelf
set_option linter.unusedVariables false
set_option linter.unusedSimpArgs false

/-- What Phase answers: a right phase. -/
def PhPost (b : Nat) (w : World) (e : Ending) (w' : World) : Prop :=
  ∃ k f u v : Int, e = .returned (.agg #[.int .i64 k, .int .i64 f, .int .i64 u, .int .i64 v]) ∧ phE k f u v = 0 ∧ Steps1 b w w'
theorem phE_of {k f u v : Int} (h1 : 1 ≤ k) (h2 : k ≤ 4) (h3 : 0 ≤ f) (h4 : f ≤ u) (h5 : u ≤ 364) (h6 : 0 ≤ v) (h7 : v ≤ 1000) : phE k f u v = 0 := by
  unfold phE dayOK greenOK; rw [if_neg (by omega), if_neg (by omega)]
theorem SerN.drew {n : Nat} {w : World} {a : Option Addr} {l : List (Int × Int)} (h : SerN n w a l) : SerN n w.drew a l := h
theorem ser_flat {n : Nat} {w : World} {blk off : Nat} {l : List (Int × Int)} (h : SerN n w (some ⟨blk, off, none⟩) l) (h0 : 0 < l.length) :
    (∀ j, j < l.length → w.cell? ⟨blk, off + j * 2, none⟩ = some (.int .i64 (ob l j).1)) ∧ (∀ j, j < l.length → w.cell? ⟨blk, off + j * 2 + 1, none⟩ = some (.int .i64 (ob l j).2)) ∧ blk < w.heap.size :=
  ⟨fun j hj => by obtain ⟨_, _, e, h1, _⟩ := h.1 j hj; cases e; exact h1, fun j hj => by obtain ⟨_, _, e, _, h2⟩ := h.1 j hj; cases e; exact h2, by
    obtain ⟨_, _, e, h1, _⟩ := h.1 0 h0; cases e; exact World.block_lt_of_cell? _ _ h1⟩
/-- Behind the choice of an observation. -/
def PhD (b g : Nat) (w : World) (k0 f0 v0 : Int) (s6 : Value) (wx : World) : Prop :=
  ∃ (gg : Nat) (d gr : Int), s6 = .pointer (some ⟨gg, 0, none⟩) ∧ w.heap.size ≤ gg ∧ gg ≠ g ∧ gg ≠ w.heap.size + 1 ∧ 0 ≤ d ∧ d ≤ 364 ∧ 0 ≤ gr ∧ gr ≤ 1000 ∧ Blk wx gg 34 #[.int .i64 d, .int .i64 gr] ∧
    Blk wx g 27 #[.int .i64 k0, .int .i64 f0, .int .i64 0, .int .i64 v0] ∧ Blk wx (w.heap.size + 1) 27 #[.int .i64 0, .int .i64 0, .int .i64 0, .int .i64 0] ∧ Steps1 b w wx
/-- Behind the branch: the phase's box, and what is left. -/
def PhC (b g : Nat) (w : World) (k0 : Int) (wx : World) : Prop :=
  ∃ f v : Int, 0 ≤ f ∧ f ≤ 400 ∧ 0 ≤ v ∧ v ≤ 1000 ∧ Blk wx g 27 #[.int .i64 k0, .int .i64 f, .int .i64 0, .int .i64 v] ∧ Blk wx (w.heap.size + 1) 27 #[.int .i64 0, .int .i64 0, .int .i64 0, .int .i64 0] ∧ Steps1 b w wx

set_option maxRecDepth 100000 in
set_option maxHeartbeats 8000000 in
theorem phase_any (b n : Nat) (s : Int) (a : Option Addr) (len cap : Nat) (l : List (Int × Int)) (w : World) (hT : Tape w b) (hn : b < n) (hS : SerN n w a l) (hl : l.length = len) (hR : chkS s l = 0) :
    Calls Try.prog 20 #[.pointer (some ⟨b, 0, none⟩), .agg #[.int .i64 s, .slice a len cap]] w (PhPost b w) := by
  have hb0 := hT.lt
  have hlen : len ≤ 60 := by have := (right_lim hR).2.2.1; omega
  have T0 := Lib.hid (sal (sal (Steps1.refl hT) (.cells #[.int .i64 s, .slice a len cap] 25)) (.cells #[.int .i64 0, .int .i64 0, .int .i64 0, .int .i64 0] 27))
  have SE := Lib.hid ((hS.below ((Below.refl _ _).alloc (Nat.le_refl _) (.cells #[.int .i64 s, .slice a len cap] 25))).below ((Below.refl _ _).alloc (Nat.le_refl _) (.cells #[.int .i64 0, .int .i64 0, .int .i64 0, .int .i64 0] 27)))
  have A0 := Lib.hid ((Blk.fresh (w := w) (g := w.heap.size) (t := 25) (cs := #[.int .i64 s, .slice a len cap]) rfl).alloc (.cells #[.int .i64 0, .int .i64 0, .int .i64 0, .int .i64 0] 27))
  have B0 := Lib.hid (Blk.fresh (w := w.alloc (.cells #[.int .i64 s, .slice a len cap] 25)) (g := w.heap.size + 1) (t := 27) (cs := #[.int .i64 0, .int .i64 0, .int .i64 0, .int .i64 0]) (by simp))
  have HL := Lib.hid hl; have HR := Lib.hid hR
  clear hT hS hl hR
  go_enter Try.func20, Try.ntmps20
  have S0 := T0; clear T0
  go_wp2_with fail
  refine (range_any _ _ _ _ S0.out.now (by omega) (by omega) (by omega)).mono ?_; rintro e w1 ⟨k0, k1, k2, rfl, hs1⟩
  have S1 := Lib.hid (sts S0.out hs1); have z1 := hs1.size; (try simp at z1)
  have SE := Lib.hid (SE.out.step hs1 hn)
  have A1 := Lib.hid (A0.out.step hs1 (by omega))
  have B1 := Lib.hid (B0.out.step hs1 (by omega))
  clear hs1 S0 A0 B0
  go_wp2_with fail
  refine (next_any _ _ _ S1.out.now (by omega) (by omega)).mono ?_; rintro e w2 ⟨f0, f1, f2, rfl, hs2⟩
  have S2 := Lib.hid (sts S1.out hs2); have z2 := hs2.size; (try simp at z2)
  have SE := Lib.hid (SE.out.step hs2 hn)
  have A2 := Lib.hid (A1.out.step hs2 (by omega))
  have B2 := Lib.hid (B1.out.step hs2 (by omega))
  clear hs2 S1 A1 B1
  go_wp2_with fail
  refine (next_any _ _ _ S2.out.now (by omega) (by omega)).mono ?_; rintro e w3 ⟨v0, v1, v2, rfl, hs3⟩
  have S3 := Lib.hid (sts S2.out hs3); have z3 := hs3.size; (try simp at z3)
  have SE := Lib.hid (SE.out.step hs3 hn)
  have A3 := Lib.hid (A2.out.step hs3 (by omega))
  have B3 := Lib.hid (B2.out.step hs3 (by omega))
  clear hs3 S2 A2 B2
  have S4 := Lib.hid (sal S3.out (.cells #[.int .i64 k0, .int .i64 f0, .int .i64 0, .int .i64 v0] 27)); have A4 := Lib.hid (A3.out.alloc (.cells #[.int .i64 k0, .int .i64 f0, .int .i64 0, .int .i64 v0] 27)); have B4 := Lib.hid (B3.out.alloc (.cells #[.int .i64 k0, .int .i64 f0, .int .i64 0, .int .i64 v0] 27))
  have P4 := Lib.hid (Blk.fresh (w := w3) (g := w3.heap.size) (t := 27) (cs := #[.int .i64 k0, .int .i64 f0, .int .i64 0, .int .i64 v0]) rfl)
  have SE := Lib.hid (SE.out.below ((Below.refl _ _).alloc (Nat.le_refl _) (.cells #[.int .i64 k0, .int .i64 f0, .int .i64 0, .int .i64 v0] 27)))
  have a0 : w3.cell? ⟨w.heap.size, 0, none⟩ = some (.int .i64 s) := A3.out.cell 0; have a1 : w3.cell? ⟨w.heap.size, 1, none⟩ = some (.slice a len cap) := A3.out.cell 1; have ya := A3.out.lt; have yb := B3.out.lt
  clear S3 A3 B3
  by_cases h0 : 0 < len
  · have h0' : (0 : Int) < (len : Int) := by omega
    obtain ⟨blk, off, rfl, _, _⟩ := SE.out.1 0 (by rw [HL.out]; exact h0)
    go_wp2_with fail
    refine (next_any _ _ _ S4.out.now (by omega) (by omega)).mono ?_; rintro e w5 ⟨c, c1, c2, rfl, hs5⟩
    have S5 := Lib.hid (sts S4.out hs5); have z5 := hs5.size; (try simp at z5)
    have SE := Lib.hid (SE.out.step hs5 hn)
    have A5 := Lib.hid (A4.out.step hs5 (by omega))
    have B5 := Lib.hid (B4.out.step hs5 (by omega))
    have P5 := Lib.hid (P4.out.step hs5 (by omega))
    clear hs5 S4 A4 B4 P4
    go_upto_if 22 with fail
    go_cut [] (fun wx => PhC b w3.heap.size w k0 wx)
    case first =>
      by_cases hc : 0 < c
      · have b1 : w5.cell? ⟨w.heap.size, 1, none⟩ = some (.slice (some ⟨blk, off, none⟩) len cap) := A5.out.cell 1; have yA := A5.out.lt; have yP := P5.out.lt; have yB := B5.out.lt
        clear a0 a1 ya yb
        go_upto_region 3 with fail
        go_cut [6] (fun s6 wx => PhD b w3.heap.size w k0 f0 v0 s6 wx)
        case first =>
          obtain ⟨hq0, hq1, yk⟩ := ser_flat SE.out (by rw [HL.out]; exact h0)
          rw [HL.out] at hq0 hq1
          have yk5 : blk ≠ w5.heap.size := by omega
          have yw5 : w.heap.size ≠ w5.heap.size := by omega
          have SEa : RowKit.Hid (SerN n (w5.alloc (.cells #[.int .i64 0, .int .i64 0] 34)).drew (some ⟨blk, off, none⟩) l) := Lib.hid (SE.out.below ((Below.refl _ _).alloc (Nat.le_refl _) _)).drew
          have OBa : RowKit.Hid (Blk (w5.alloc (.cells #[.int .i64 0, .int .i64 0] 34)).drew w5.heap.size 34 #[.int .i64 0, .int .i64 0]) := Lib.hid (Blk.fresh rfl)
          go_region_held3 (fun w' => w'.cell? ⟨w.heap.size, 1, none⟩ = some (.slice (some ⟨blk, off, none⟩) len cap) ∧ (∀ j, j < len → w'.cell? ⟨blk, off + j * 2, none⟩ = some (.int .i64 (ob l j).1)) ∧ (∀ j, j < len → w'.cell? ⟨blk, off + j * 2 + 1, none⟩ = some (.int .i64 (ob l j).2))) (refine ⟨?_, fun j hj => ?_, fun j hj => ?_⟩ <;> simp [go_sem, *]) (first | (go_at_call 30; refine (next_any _ _ _ (by first | exact S5.out.now | exact S5.out.now.drew | exact (S5.out.now.alloc _).drew | exact S5.out.now.alloc _ | exact S5.out.now.drew.alloc _) (by omega) (by omega)).mono ?_; rintro e w6 ⟨i, i1, i2, rfl, hs6⟩; have S6 := Lib.hid (show Steps1 b w w6 from (by first | exact sts S5.out hs6 | exact sts (sdr S5.out) hs6 | exact sts (sdr (sal S5.out _)) hs6 | exact sts (sal S5.out _) hs6 | exact sts (sal (sdr S5.out) _) hs6)); have z6 := hs6.size; (try simp at z6); have A6 := Lib.hid (show Blk w6 w.heap.size 25 #[.int .i64 s, .slice (some ⟨blk, off, none⟩) len cap] from (by first | exact A5.out.step hs6 (by omega) | exact A5.out.drew.step hs6 (by omega) | exact (A5.out.alloc _).drew.step hs6 (by omega) | exact (A5.out.alloc _).step hs6 (by omega) | exact (A5.out.drew.alloc _).step hs6 (by omega))); have B6 := Lib.hid (show Blk w6 (w.heap.size + 1) 27 #[.int .i64 0, .int .i64 0, .int .i64 0, .int .i64 0] from (by first | exact B5.out.step hs6 (by omega) | exact B5.out.drew.step hs6 (by omega) | exact (B5.out.alloc _).drew.step hs6 (by omega) | exact (B5.out.alloc _).step hs6 (by omega) | exact (B5.out.drew.alloc _).step hs6 (by omega))); have P6 := Lib.hid (show Blk w6 w3.heap.size 27 #[.int .i64 k0, .int .i64 (f0), .int .i64 0, .int .i64 (v0)] from (by first | exact P5.out.step hs6 (by omega) | exact P5.out.drew.step hs6 (by omega) | exact (P5.out.alloc _).drew.step hs6 (by omega) | exact (P5.out.alloc _).step hs6 (by omega) | exact (P5.out.drew.alloc _).step hs6 (by omega))); have SE6 := Lib.hid (show SerN n w6 (some ⟨blk, off, none⟩) l from (by first | exact SE.out.step hs6 hn | exact SerN.step (show SerN n w5.drew (some ⟨blk, off, none⟩) l from SE.out) hs6 hn | exact SerN.step SEa.out hs6 hn)); (try (have OB6 := OBa.out.step hs6 (by omega); have u0 := OB6.cell 0; have u1 := OB6.cell 1; have v0' := OB6.free 0; have v1' := OB6.free 1; have yO := OB6.lt; simp at u0 u1; replace OB6 := Lib.hid OB6)); clear hq0 hq1; obtain ⟨hq0, hq1, yk6⟩ := ser_flat SE6.out (by rw [HL.out]; exact h0); rw [HL.out] at hq0 hq1; obtain ⟨ii, rfl⟩ := Int.eq_ofNat_of_zero_le i1; have ri := right_at HR.out ii (by rw [HL.out]; omega); have b6 : w6.cell? ⟨w.heap.size, 1, none⟩ = some (.slice (some ⟨blk, off, none⟩) len cap) := A6.out.cell 1; have yA6 := A6.out.lt; have ii2 : ii < len := (by omega); clear hs6))
          all_goals (go_wp2_with fail)
          all_goals go_meet
          all_goals
            (case rel =>
              first
              | exact ⟨w6.heap.size, _, _, rfl, by omega, by omega, by omega, ri.1, ri.2.1, ri.2.2.1, ri.2.2.2, Blk.fresh rfl, P6.out.alloc _, B6.out.alloc _, sal S6.out _⟩
              | exact ⟨w5.heap.size, _, _, rfl, by omega, by omega, by omega, ri.1, ri.2.1, ri.2.2.1, ri.2.2.2, (OB6.out.put 0 _).put 1 _, Blk.far (Blk.far P6.out _ _ _ (by omega)) _ _ _ (by omega), Blk.far (Blk.far B6.out _ _ _ (by omega)) _ _ _ (by omega), sst (sst S6.out _ _ _ (by omega)) _ _ _ (by omega)⟩)
        case rest =>
          obtain ⟨gg, d, gr, rfl, og1, og2, og3, dl, dh, gl, gh, hO, hP, hB, hS⟩ := hcut
          have O7 := Lib.hid hO; have P7 := Lib.hid hP; have B7 := Lib.hid hB; have S7 := Lib.hid hS
          have m0 : wc.cell? ⟨gg, 0, none⟩ = some (.int .i64 d) := hO.cell 0; have m1 : wc.cell? ⟨gg, 1, none⟩ = some (.int .i64 gr) := hO.cell 1; have ym := hO.lt
          have zc := hS.size
          clear hO hP hB hS
          go_wp2
          go_region_held3 (fun w' => w'.cell? ⟨gg, 0, none⟩ = some (.int .i64 d)) (simp [go_sem, *]) (first | (go_at_call 29; refine (range_any _ _ _ _ (by first | exact S7.out.now | exact S7.out.now.drew | exact (S7.out.now.alloc _).drew | exact S7.out.now.alloc _ | exact S7.out.now.drew.alloc _) (by omega) (by omega) (by omega)).mono ?_; rintro e w8 ⟨r, r1, r2, rfl, hs8⟩; have S8 := Lib.hid (show Steps1 b w w8 from (by first | exact sts S7.out hs8 | exact sts (sdr S7.out) hs8 | exact sts (sdr (sal S7.out _)) hs8 | exact sts (sal S7.out _) hs8 | exact sts (sal (sdr S7.out) _) hs8)); have z8 := hs8.size; (try simp at z8); have O8 := Lib.hid (show Blk w8 gg 34 #[.int .i64 d, .int .i64 gr] from (by first | exact O7.out.step hs8 (by omega) | exact O7.out.drew.step hs8 (by omega) | exact (O7.out.alloc _).drew.step hs8 (by omega) | exact (O7.out.alloc _).step hs8 (by omega) | exact (O7.out.drew.alloc _).step hs8 (by omega))); have P8 := Lib.hid (show Blk w8 w3.heap.size 27 #[.int .i64 k0, .int .i64 (f0), .int .i64 0, .int .i64 (v0)] from (by first | exact P7.out.step hs8 (by omega) | exact P7.out.drew.step hs8 (by omega) | exact (P7.out.alloc _).drew.step hs8 (by omega) | exact (P7.out.alloc _).step hs8 (by omega) | exact (P7.out.drew.alloc _).step hs8 (by omega))); have B8 := Lib.hid (show Blk w8 (w.heap.size + 1) 27 #[.int .i64 0, .int .i64 0, .int .i64 0, .int .i64 0] from (by first | exact B7.out.step hs8 (by omega) | exact B7.out.drew.step hs8 (by omega) | exact (B7.out.alloc _).drew.step hs8 (by omega) | exact (B7.out.alloc _).step hs8 (by omega) | exact (B7.out.drew.alloc _).step hs8 (by omega))); have hw8 : IntKind.i64.wrap (d + r) = d + r := IntWalk.i64_in _ (by omega); have m8 : w8.cell? ⟨gg, 0, none⟩ = some (.int .i64 d) := O8.out.cell 0; have g8 := P8.out.free 1; have d8 : w8.cell? ⟨w3.heap.size, 1, none⟩ = some (.int .i64 f0) := P8.out.cell 1; have y8 := P8.out.lt; clear hs8))
          obtain ⟨x, hx⟩ : ∃ x, (if 0 < d + r then d + r else 0) = x := ⟨_, rfl⟩
          rw [hx]
          have hx1 : 0 ≤ x := by split at hx <;> omega
          have hx2 : x ≤ 400 := by split at hx <;> omega
          clear hx hw8 d8 g8 m0 m1 ym
          have P9 := Lib.hid (P8.out.put 1 (.int .i64 x)); have B9 := Lib.hid (Blk.far B8.out w3.heap.size 1 (.int .i64 x) (by omega)); have O9 := Lib.hid (Blk.far O8.out w3.heap.size 1 (.int .i64 x) (by omega)); have S9 := Lib.hid (sst S8.out w3.heap.size 1 (.int .i64 x) (by omega))
          have m9 : (w8.setCell ⟨w3.heap.size, 1, none⟩ (.int .i64 x)).cell? ⟨gg, 1, none⟩ = some (.int .i64 gr) := O9.out.cell 1; have y9 := O9.out.lt; (try simp at y9)
          go_wp2
          go_region_held3 (fun w' => w'.cell? ⟨gg, 1, none⟩ = some (.int .i64 gr)) (simp [go_sem, *]) (first | (go_at_call 29; refine (range_any _ _ _ _ (by first | exact S9.out.now | exact S9.out.now.drew | exact (S9.out.now.alloc _).drew | exact S9.out.now.alloc _ | exact S9.out.now.drew.alloc _) (by omega) (by omega) (by omega)).mono ?_; rintro e w10 ⟨q, q1, q2, rfl, hs10⟩; have S10 := Lib.hid (show Steps1 b w w10 from (by first | exact sts S9.out hs10 | exact sts (sdr S9.out) hs10 | exact sts (sdr (sal S9.out _)) hs10 | exact sts (sal S9.out _) hs10 | exact sts (sal (sdr S9.out) _) hs10)); have z10 := hs10.size; (try simp at z10); have O10 := Lib.hid (show Blk w10 gg 34 #[.int .i64 d, .int .i64 gr] from (by first | exact O9.out.step hs10 (by omega) | exact O9.out.drew.step hs10 (by omega) | exact (O9.out.alloc _).drew.step hs10 (by omega) | exact (O9.out.alloc _).step hs10 (by omega) | exact (O9.out.drew.alloc _).step hs10 (by omega))); have P10 := Lib.hid (show Blk w10 w3.heap.size 27 #[.int .i64 k0, .int .i64 (x), .int .i64 0, .int .i64 (v0)] from (by first | exact P9.out.step hs10 (by omega) | exact P9.out.drew.step hs10 (by omega) | exact (P9.out.alloc _).drew.step hs10 (by omega) | exact (P9.out.alloc _).step hs10 (by omega) | exact (P9.out.drew.alloc _).step hs10 (by omega))); have B10 := Lib.hid (show Blk w10 (w.heap.size + 1) 27 #[.int .i64 0, .int .i64 0, .int .i64 0, .int .i64 0] from (by first | exact B9.out.step hs10 (by omega) | exact B9.out.drew.step hs10 (by omega) | exact (B9.out.alloc _).drew.step hs10 (by omega) | exact (B9.out.alloc _).step hs10 (by omega) | exact (B9.out.drew.alloc _).step hs10 (by omega))); have hw10 : IntKind.i64.wrap (gr + q) = gr + q := IntWalk.i64_in _ (by omega); have m10 : w10.cell? ⟨gg, 1, none⟩ = some (.int .i64 gr) := O10.out.cell 1; have g10 := P10.out.free 3; have d10 : w10.cell? ⟨w3.heap.size, 3, none⟩ = some (.int .i64 v0) := P10.out.cell 3; have y10 := P10.out.lt; clear hs10))
          obtain ⟨y0, hy0⟩ : ∃ y0, (if gr + q < 1000 then gr + q else 1000) = y0 := ⟨_, rfl⟩
          rw [hy0]
          have hy1 : y0 ≤ 1000 := by split at hy0 <;> omega
          obtain ⟨y, hy⟩ : ∃ y, (if 0 < y0 then y0 else 0) = y := ⟨_, rfl⟩
          rw [hy]
          have hy2 : 0 ≤ y := by split at hy <;> omega
          have hy3 : y ≤ 1000 := by split at hy <;> omega
          clear hy hy0 hw10 d10 g10
          go_wp2
          go_meet
          case rel => exact ⟨x, y, hx1, hx2, hy2, hy3, P10.out.put 3 (.int .i64 y), Blk.far B10.out _ _ _ (by omega), sst S10.out _ _ _ (by omega)⟩
      · go_wp2
        go_meet
        case rel => exact ⟨f0, v0, f1, by omega, v1, by omega, P5.out, B5.out, S5.out⟩
    case rest =>
      obtain ⟨f, v, fl, fh, vl, vh, hP, hR9, hS9⟩ := hcut
      have PC := Lib.hid hP; have RC := Lib.hid hR9; have SC := Lib.hid hS9
      clear hP hR9 hS9
      have e1 : wc.cell? ⟨w3.heap.size, 1, none⟩ = some (.int .i64 f) := PC.out.cell 1; have g1 := PC.out.free 1; have y1 := PC.out.lt; have zx := SC.out.size; have yR := RC.out.lt
      by_cases hf : f ≤ 364
      · have P5 := Lib.hid (PC.out.put 1 (.int .i64 f)); have R5 := Lib.hid (Blk.far RC.out w3.heap.size 1 (.int .i64 f) (by omega)); have S5 := Lib.hid (sst SC.out w3.heap.size 1 (.int .i64 f) (by omega))
        have e2 : (wc.setCell ⟨w3.heap.size, 1, none⟩ (.int .i64 f)).cell? ⟨w3.heap.size, 1, none⟩ = some (.int .i64 f) := P5.out.cell 1
        go_wp2
        go_region_held3 (fun w' => w'.cell? ⟨w3.heap.size, 1, none⟩ = some (.int .i64 f)) (simp [go_sem, *]) (first | (go_at_call 30; refine (next_any _ _ _ (by first | exact S5.out.now | exact S5.out.now.drew | exact (S5.out.now.alloc _).drew | exact S5.out.now.alloc _ | exact S5.out.now.drew.alloc _) (by omega) (by omega)).mono ?_; rintro e w6 ⟨r, r1, r2, rfl, hs6⟩; have S6 := Lib.hid (show Steps1 b w w6 from (by first | exact sts S5.out hs6 | exact sts (sdr S5.out) hs6 | exact sts (sdr (sal S5.out _)) hs6 | exact sts (sal S5.out _) hs6 | exact sts (sal (sdr S5.out) _) hs6)); have z6 := hs6.size; (try simp at z6); have P6 := Lib.hid (show Blk w6 w3.heap.size 27 #[.int .i64 k0, .int .i64 f, .int .i64 0, .int .i64 v] from (by first | exact P5.out.step hs6 (by omega) | exact P5.out.drew.step hs6 (by omega) | exact (P5.out.alloc _).drew.step hs6 (by omega) | exact (P5.out.alloc _).step hs6 (by omega) | exact (P5.out.drew.alloc _).step hs6 (by omega))); have R6 := Lib.hid (show Blk w6 (w.heap.size + 1) 27 #[.int .i64 0, .int .i64 0, .int .i64 0, .int .i64 0] from (by first | exact R5.out.step hs6 (by omega) | exact R5.out.drew.step hs6 (by omega) | exact (R5.out.alloc _).drew.step hs6 (by omega) | exact (R5.out.alloc _).step hs6 (by omega) | exact (R5.out.drew.alloc _).step hs6 (by omega))); have e6 : w6.cell? ⟨w3.heap.size, 1, none⟩ = some (.int .i64 f) := P6.out.cell 1; have g6 := P6.out.free 2; have d6 : w6.cell? ⟨w3.heap.size, 2, none⟩ = some (.int .i64 0) := P6.out.cell 2; have y6 := P6.out.lt; have hw6 : IntKind.i64.wrap (f + r) = f + r := IntWalk.i64_in _ (by omega); clear hs6))
        all_goals
          obtain ⟨x, hx⟩ : ∃ x, (if f + r < 364 then f + r else 364) = x := ⟨_, rfl⟩
          rw [hx]
          have hx1 : f ≤ x := by split at hx <;> omega
          have hx2 : x ≤ 364 := by split at hx <;> omega
          clear hx hw6 e6 d6 g6
          have P7 := Lib.hid (P6.out.put 2 (.int .i64 x)); have R7 := Lib.hid (Blk.far R6.out w3.heap.size 2 (.int .i64 x) (by omega)); have S7 := Lib.hid (sst S6.out w3.heap.size 2 (.int .i64 x) (by omega))
          have p0 : (w6.setCell ⟨w3.heap.size, 2, none⟩ (.int .i64 x)).cell? ⟨w3.heap.size, 0, none⟩ = some (.int .i64 k0) := P7.out.cell 0
          have p1 : (w6.setCell ⟨w3.heap.size, 2, none⟩ (.int .i64 x)).cell? ⟨w3.heap.size, 1, none⟩ = some (.int .i64 f) := P7.out.cell 1
          have p2 : (w6.setCell ⟨w3.heap.size, 2, none⟩ (.int .i64 x)).cell? ⟨w3.heap.size, 2, none⟩ = some (.int .i64 x) := P7.out.cell 2
          have p3 : (w6.setCell ⟨w3.heap.size, 2, none⟩ (.int .i64 x)).cell? ⟨w3.heap.size, 3, none⟩ = some (.int .i64 v) := P7.out.cell 3
          have q0 : (w6.setCell ⟨w3.heap.size, 2, none⟩ (.int .i64 x)).cell? ⟨w.heap.size + 1, 0, none⟩ = some (.int .i64 0) := R7.out.cell 0; have t0 := R7.out.free 0
          have q1 : (w6.setCell ⟨w3.heap.size, 2, none⟩ (.int .i64 x)).cell? ⟨w.heap.size + 1, 1, none⟩ = some (.int .i64 0) := R7.out.cell 1; have t1 := R7.out.free 1
          have q2 : (w6.setCell ⟨w3.heap.size, 2, none⟩ (.int .i64 x)).cell? ⟨w.heap.size + 1, 2, none⟩ = some (.int .i64 0) := R7.out.cell 2; have t2 := R7.out.free 2
          have q3 : (w6.setCell ⟨w3.heap.size, 2, none⟩ (.int .i64 x)).cell? ⟨w.heap.size + 1, 3, none⟩ = some (.int .i64 0) := R7.out.cell 3; have t3 := R7.out.free 3
          have yR7 := R7.out.lt
          (try simp at yR7)
          go_wp2
          have RF := Lib.hid (((((R7.out.put 0 (.int .i64 k0)).put 1 (.int .i64 f)).put 2 (.int .i64 x)).put 3 (.int .i64 v)))
          have b0 : (((((w6.setCell ⟨w3.heap.size, 2, none⟩ (.int .i64 x)).setCell ⟨w.heap.size + 1, 0, none⟩ (.int .i64 k0)).setCell ⟨w.heap.size + 1, 1, none⟩ (.int .i64 f)).setCell ⟨w.heap.size + 1, 2, none⟩ (.int .i64 x)).setCell ⟨w.heap.size + 1, 3, none⟩ (.int .i64 v)).cell? ⟨w.heap.size + 1, 0, none⟩ = some (.int .i64 k0) := RF.out.cell 0
          have b1 : (((((w6.setCell ⟨w3.heap.size, 2, none⟩ (.int .i64 x)).setCell ⟨w.heap.size + 1, 0, none⟩ (.int .i64 k0)).setCell ⟨w.heap.size + 1, 1, none⟩ (.int .i64 f)).setCell ⟨w.heap.size + 1, 2, none⟩ (.int .i64 x)).setCell ⟨w.heap.size + 1, 3, none⟩ (.int .i64 v)).cell? ⟨w.heap.size + 1, 1, none⟩ = some (.int .i64 f) := RF.out.cell 1
          have b2 : (((((w6.setCell ⟨w3.heap.size, 2, none⟩ (.int .i64 x)).setCell ⟨w.heap.size + 1, 0, none⟩ (.int .i64 k0)).setCell ⟨w.heap.size + 1, 1, none⟩ (.int .i64 f)).setCell ⟨w.heap.size + 1, 2, none⟩ (.int .i64 x)).setCell ⟨w.heap.size + 1, 3, none⟩ (.int .i64 v)).cell? ⟨w.heap.size + 1, 2, none⟩ = some (.int .i64 x) := RF.out.cell 2
          have b3 : (((((w6.setCell ⟨w3.heap.size, 2, none⟩ (.int .i64 x)).setCell ⟨w.heap.size + 1, 0, none⟩ (.int .i64 k0)).setCell ⟨w.heap.size + 1, 1, none⟩ (.int .i64 f)).setCell ⟨w.heap.size + 1, 2, none⟩ (.int .i64 x)).setCell ⟨w.heap.size + 1, 3, none⟩ (.int .i64 v)).cell? ⟨w.heap.size + 1, 3, none⟩ = some (.int .i64 v) := RF.out.cell 3
          refine bodyPost_ret (v := .agg #[.int .i64 k0, .int .i64 f, .int .i64 x, .int .i64 v]) (by simp [results, Try.results20, go_sem, b0, b1, b2, b3]) rfl ?_
          exact ⟨k0, f, x, v, rfl, phE_of k1 (by omega) (by omega) hx1 hx2 (by omega) (by omega), sst (sst (sst (sst S7.out _ _ _ (by omega)) _ _ _ (by omega)) _ _ _ (by omega)) _ _ _ (by omega)⟩
      · have P5 := Lib.hid (PC.out.put 1 (.int .i64 364)); have R5 := Lib.hid (Blk.far RC.out w3.heap.size 1 (.int .i64 364) (by omega)); have S5 := Lib.hid (sst SC.out w3.heap.size 1 (.int .i64 364) (by omega))
        have e2 : (wc.setCell ⟨w3.heap.size, 1, none⟩ (.int .i64 364)).cell? ⟨w3.heap.size, 1, none⟩ = some (.int .i64 364) := P5.out.cell 1
        go_wp2
        go_region_held3 (fun w' => w'.cell? ⟨w3.heap.size, 1, none⟩ = some (.int .i64 364)) (simp [go_sem, *]) (first | (go_at_call 30; refine (next_any _ _ _ (by first | exact S5.out.now | exact S5.out.now.drew | exact (S5.out.now.alloc _).drew | exact S5.out.now.alloc _ | exact S5.out.now.drew.alloc _) (by omega) (by omega)).mono ?_; rintro e w6 ⟨r, r1, r2, rfl, hs6⟩; have S6 := Lib.hid (show Steps1 b w w6 from (by first | exact sts S5.out hs6 | exact sts (sdr S5.out) hs6 | exact sts (sdr (sal S5.out _)) hs6 | exact sts (sal S5.out _) hs6 | exact sts (sal (sdr S5.out) _) hs6)); have z6 := hs6.size; (try simp at z6); have P6 := Lib.hid (show Blk w6 w3.heap.size 27 #[.int .i64 k0, .int .i64 364, .int .i64 0, .int .i64 v] from (by first | exact P5.out.step hs6 (by omega) | exact P5.out.drew.step hs6 (by omega) | exact (P5.out.alloc _).drew.step hs6 (by omega) | exact (P5.out.alloc _).step hs6 (by omega) | exact (P5.out.drew.alloc _).step hs6 (by omega))); have R6 := Lib.hid (show Blk w6 (w.heap.size + 1) 27 #[.int .i64 0, .int .i64 0, .int .i64 0, .int .i64 0] from (by first | exact R5.out.step hs6 (by omega) | exact R5.out.drew.step hs6 (by omega) | exact (R5.out.alloc _).drew.step hs6 (by omega) | exact (R5.out.alloc _).step hs6 (by omega) | exact (R5.out.drew.alloc _).step hs6 (by omega))); have e6 : w6.cell? ⟨w3.heap.size, 1, none⟩ = some (.int .i64 364) := P6.out.cell 1; have g6 := P6.out.free 2; have d6 : w6.cell? ⟨w3.heap.size, 2, none⟩ = some (.int .i64 0) := P6.out.cell 2; have y6 := P6.out.lt; have hw6 : IntKind.i64.wrap (364 + r) = 364 + r := IntWalk.i64_in _ (by omega); clear hs6))
        all_goals
          obtain ⟨x, hx⟩ : ∃ x, (if 364 + r < 364 then 364 + r else 364) = x := ⟨_, rfl⟩
          rw [hx]
          have hx1 : 364 ≤ x := by split at hx <;> omega
          have hx2 : x ≤ 364 := by split at hx <;> omega
          clear hx hw6 e6 d6 g6
          have P7 := Lib.hid (P6.out.put 2 (.int .i64 x)); have R7 := Lib.hid (Blk.far R6.out w3.heap.size 2 (.int .i64 x) (by omega)); have S7 := Lib.hid (sst S6.out w3.heap.size 2 (.int .i64 x) (by omega))
          have p0 : (w6.setCell ⟨w3.heap.size, 2, none⟩ (.int .i64 x)).cell? ⟨w3.heap.size, 0, none⟩ = some (.int .i64 k0) := P7.out.cell 0
          have p1 : (w6.setCell ⟨w3.heap.size, 2, none⟩ (.int .i64 x)).cell? ⟨w3.heap.size, 1, none⟩ = some (.int .i64 364) := P7.out.cell 1
          have p2 : (w6.setCell ⟨w3.heap.size, 2, none⟩ (.int .i64 x)).cell? ⟨w3.heap.size, 2, none⟩ = some (.int .i64 x) := P7.out.cell 2
          have p3 : (w6.setCell ⟨w3.heap.size, 2, none⟩ (.int .i64 x)).cell? ⟨w3.heap.size, 3, none⟩ = some (.int .i64 v) := P7.out.cell 3
          have q0 : (w6.setCell ⟨w3.heap.size, 2, none⟩ (.int .i64 x)).cell? ⟨w.heap.size + 1, 0, none⟩ = some (.int .i64 0) := R7.out.cell 0; have t0 := R7.out.free 0
          have q1 : (w6.setCell ⟨w3.heap.size, 2, none⟩ (.int .i64 x)).cell? ⟨w.heap.size + 1, 1, none⟩ = some (.int .i64 0) := R7.out.cell 1; have t1 := R7.out.free 1
          have q2 : (w6.setCell ⟨w3.heap.size, 2, none⟩ (.int .i64 x)).cell? ⟨w.heap.size + 1, 2, none⟩ = some (.int .i64 0) := R7.out.cell 2; have t2 := R7.out.free 2
          have q3 : (w6.setCell ⟨w3.heap.size, 2, none⟩ (.int .i64 x)).cell? ⟨w.heap.size + 1, 3, none⟩ = some (.int .i64 0) := R7.out.cell 3; have t3 := R7.out.free 3
          have yR7 := R7.out.lt
          (try simp at yR7)
          go_wp2
          have RF := Lib.hid (((((R7.out.put 0 (.int .i64 k0)).put 1 (.int .i64 364)).put 2 (.int .i64 x)).put 3 (.int .i64 v)))
          have b0 : (((((w6.setCell ⟨w3.heap.size, 2, none⟩ (.int .i64 x)).setCell ⟨w.heap.size + 1, 0, none⟩ (.int .i64 k0)).setCell ⟨w.heap.size + 1, 1, none⟩ (.int .i64 364)).setCell ⟨w.heap.size + 1, 2, none⟩ (.int .i64 x)).setCell ⟨w.heap.size + 1, 3, none⟩ (.int .i64 v)).cell? ⟨w.heap.size + 1, 0, none⟩ = some (.int .i64 k0) := RF.out.cell 0
          have b1 : (((((w6.setCell ⟨w3.heap.size, 2, none⟩ (.int .i64 x)).setCell ⟨w.heap.size + 1, 0, none⟩ (.int .i64 k0)).setCell ⟨w.heap.size + 1, 1, none⟩ (.int .i64 364)).setCell ⟨w.heap.size + 1, 2, none⟩ (.int .i64 x)).setCell ⟨w.heap.size + 1, 3, none⟩ (.int .i64 v)).cell? ⟨w.heap.size + 1, 1, none⟩ = some (.int .i64 364) := RF.out.cell 1
          have b2 : (((((w6.setCell ⟨w3.heap.size, 2, none⟩ (.int .i64 x)).setCell ⟨w.heap.size + 1, 0, none⟩ (.int .i64 k0)).setCell ⟨w.heap.size + 1, 1, none⟩ (.int .i64 364)).setCell ⟨w.heap.size + 1, 2, none⟩ (.int .i64 x)).setCell ⟨w.heap.size + 1, 3, none⟩ (.int .i64 v)).cell? ⟨w.heap.size + 1, 2, none⟩ = some (.int .i64 x) := RF.out.cell 2
          have b3 : (((((w6.setCell ⟨w3.heap.size, 2, none⟩ (.int .i64 x)).setCell ⟨w.heap.size + 1, 0, none⟩ (.int .i64 k0)).setCell ⟨w.heap.size + 1, 1, none⟩ (.int .i64 364)).setCell ⟨w.heap.size + 1, 2, none⟩ (.int .i64 x)).setCell ⟨w.heap.size + 1, 3, none⟩ (.int .i64 v)).cell? ⟨w.heap.size + 1, 3, none⟩ = some (.int .i64 v) := RF.out.cell 3
          refine bodyPost_ret (v := .agg #[.int .i64 k0, .int .i64 364, .int .i64 x, .int .i64 v]) (by simp [results, Try.results20, go_sem, b0, b1, b2, b3]) rfl ?_
          exact ⟨k0, 364, x, v, rfl, phE_of k1 (by omega) (by omega) hx1 hx2 (by omega) (by omega), sst (sst (sst (sst S7.out _ _ _ (by omega)) _ _ _ (by omega)) _ _ _ (by omega)) _ _ _ (by omega)⟩
  · obtain rfl : len = 0 := by omega
    clear h0
    go_upto_if 22 with fail
    go_cut [] (fun wx => PhC b w3.heap.size w k0 wx)
    case first =>
      go_wp2
      go_meet
      case rel => exact ⟨f0, v0, f1, by omega, v1, by omega, P4.out, B4.out, S4.out⟩
    case rest =>
      obtain ⟨f, v, fl, fh, vl, vh, hP, hR9, hS9⟩ := hcut
      have PC := Lib.hid hP; have RC := Lib.hid hR9; have SC := Lib.hid hS9
      clear hP hR9 hS9
      have e1 : wc.cell? ⟨w3.heap.size, 1, none⟩ = some (.int .i64 f) := PC.out.cell 1; have g1 := PC.out.free 1; have y1 := PC.out.lt; have zx := SC.out.size; have yR := RC.out.lt
      by_cases hf : f ≤ 364
      · have P5 := Lib.hid (PC.out.put 1 (.int .i64 f)); have R5 := Lib.hid (Blk.far RC.out w3.heap.size 1 (.int .i64 f) (by omega)); have S5 := Lib.hid (sst SC.out w3.heap.size 1 (.int .i64 f) (by omega))
        have e2 : (wc.setCell ⟨w3.heap.size, 1, none⟩ (.int .i64 f)).cell? ⟨w3.heap.size, 1, none⟩ = some (.int .i64 f) := P5.out.cell 1
        go_wp2
        go_region_held3 (fun w' => w'.cell? ⟨w3.heap.size, 1, none⟩ = some (.int .i64 f)) (simp [go_sem, *]) (first | (go_at_call 30; refine (next_any _ _ _ (by first | exact S5.out.now | exact S5.out.now.drew | exact (S5.out.now.alloc _).drew | exact S5.out.now.alloc _ | exact S5.out.now.drew.alloc _) (by omega) (by omega)).mono ?_; rintro e w6 ⟨r, r1, r2, rfl, hs6⟩; have S6 := Lib.hid (show Steps1 b w w6 from (by first | exact sts S5.out hs6 | exact sts (sdr S5.out) hs6 | exact sts (sdr (sal S5.out _)) hs6 | exact sts (sal S5.out _) hs6 | exact sts (sal (sdr S5.out) _) hs6)); have z6 := hs6.size; (try simp at z6); have P6 := Lib.hid (show Blk w6 w3.heap.size 27 #[.int .i64 k0, .int .i64 f, .int .i64 0, .int .i64 v] from (by first | exact P5.out.step hs6 (by omega) | exact P5.out.drew.step hs6 (by omega) | exact (P5.out.alloc _).drew.step hs6 (by omega) | exact (P5.out.alloc _).step hs6 (by omega) | exact (P5.out.drew.alloc _).step hs6 (by omega))); have R6 := Lib.hid (show Blk w6 (w.heap.size + 1) 27 #[.int .i64 0, .int .i64 0, .int .i64 0, .int .i64 0] from (by first | exact R5.out.step hs6 (by omega) | exact R5.out.drew.step hs6 (by omega) | exact (R5.out.alloc _).drew.step hs6 (by omega) | exact (R5.out.alloc _).step hs6 (by omega) | exact (R5.out.drew.alloc _).step hs6 (by omega))); have e6 : w6.cell? ⟨w3.heap.size, 1, none⟩ = some (.int .i64 f) := P6.out.cell 1; have g6 := P6.out.free 2; have d6 : w6.cell? ⟨w3.heap.size, 2, none⟩ = some (.int .i64 0) := P6.out.cell 2; have y6 := P6.out.lt; have hw6 : IntKind.i64.wrap (f + r) = f + r := IntWalk.i64_in _ (by omega); clear hs6))
        all_goals
          obtain ⟨x, hx⟩ : ∃ x, (if f + r < 364 then f + r else 364) = x := ⟨_, rfl⟩
          rw [hx]
          have hx1 : f ≤ x := by split at hx <;> omega
          have hx2 : x ≤ 364 := by split at hx <;> omega
          clear hx hw6 e6 d6 g6
          have P7 := Lib.hid (P6.out.put 2 (.int .i64 x)); have R7 := Lib.hid (Blk.far R6.out w3.heap.size 2 (.int .i64 x) (by omega)); have S7 := Lib.hid (sst S6.out w3.heap.size 2 (.int .i64 x) (by omega))
          have p0 : (w6.setCell ⟨w3.heap.size, 2, none⟩ (.int .i64 x)).cell? ⟨w3.heap.size, 0, none⟩ = some (.int .i64 k0) := P7.out.cell 0
          have p1 : (w6.setCell ⟨w3.heap.size, 2, none⟩ (.int .i64 x)).cell? ⟨w3.heap.size, 1, none⟩ = some (.int .i64 f) := P7.out.cell 1
          have p2 : (w6.setCell ⟨w3.heap.size, 2, none⟩ (.int .i64 x)).cell? ⟨w3.heap.size, 2, none⟩ = some (.int .i64 x) := P7.out.cell 2
          have p3 : (w6.setCell ⟨w3.heap.size, 2, none⟩ (.int .i64 x)).cell? ⟨w3.heap.size, 3, none⟩ = some (.int .i64 v) := P7.out.cell 3
          have q0 : (w6.setCell ⟨w3.heap.size, 2, none⟩ (.int .i64 x)).cell? ⟨w.heap.size + 1, 0, none⟩ = some (.int .i64 0) := R7.out.cell 0; have t0 := R7.out.free 0
          have q1 : (w6.setCell ⟨w3.heap.size, 2, none⟩ (.int .i64 x)).cell? ⟨w.heap.size + 1, 1, none⟩ = some (.int .i64 0) := R7.out.cell 1; have t1 := R7.out.free 1
          have q2 : (w6.setCell ⟨w3.heap.size, 2, none⟩ (.int .i64 x)).cell? ⟨w.heap.size + 1, 2, none⟩ = some (.int .i64 0) := R7.out.cell 2; have t2 := R7.out.free 2
          have q3 : (w6.setCell ⟨w3.heap.size, 2, none⟩ (.int .i64 x)).cell? ⟨w.heap.size + 1, 3, none⟩ = some (.int .i64 0) := R7.out.cell 3; have t3 := R7.out.free 3
          have yR7 := R7.out.lt
          (try simp at yR7)
          go_wp2
          have RF := Lib.hid (((((R7.out.put 0 (.int .i64 k0)).put 1 (.int .i64 f)).put 2 (.int .i64 x)).put 3 (.int .i64 v)))
          have b0 : (((((w6.setCell ⟨w3.heap.size, 2, none⟩ (.int .i64 x)).setCell ⟨w.heap.size + 1, 0, none⟩ (.int .i64 k0)).setCell ⟨w.heap.size + 1, 1, none⟩ (.int .i64 f)).setCell ⟨w.heap.size + 1, 2, none⟩ (.int .i64 x)).setCell ⟨w.heap.size + 1, 3, none⟩ (.int .i64 v)).cell? ⟨w.heap.size + 1, 0, none⟩ = some (.int .i64 k0) := RF.out.cell 0
          have b1 : (((((w6.setCell ⟨w3.heap.size, 2, none⟩ (.int .i64 x)).setCell ⟨w.heap.size + 1, 0, none⟩ (.int .i64 k0)).setCell ⟨w.heap.size + 1, 1, none⟩ (.int .i64 f)).setCell ⟨w.heap.size + 1, 2, none⟩ (.int .i64 x)).setCell ⟨w.heap.size + 1, 3, none⟩ (.int .i64 v)).cell? ⟨w.heap.size + 1, 1, none⟩ = some (.int .i64 f) := RF.out.cell 1
          have b2 : (((((w6.setCell ⟨w3.heap.size, 2, none⟩ (.int .i64 x)).setCell ⟨w.heap.size + 1, 0, none⟩ (.int .i64 k0)).setCell ⟨w.heap.size + 1, 1, none⟩ (.int .i64 f)).setCell ⟨w.heap.size + 1, 2, none⟩ (.int .i64 x)).setCell ⟨w.heap.size + 1, 3, none⟩ (.int .i64 v)).cell? ⟨w.heap.size + 1, 2, none⟩ = some (.int .i64 x) := RF.out.cell 2
          have b3 : (((((w6.setCell ⟨w3.heap.size, 2, none⟩ (.int .i64 x)).setCell ⟨w.heap.size + 1, 0, none⟩ (.int .i64 k0)).setCell ⟨w.heap.size + 1, 1, none⟩ (.int .i64 f)).setCell ⟨w.heap.size + 1, 2, none⟩ (.int .i64 x)).setCell ⟨w.heap.size + 1, 3, none⟩ (.int .i64 v)).cell? ⟨w.heap.size + 1, 3, none⟩ = some (.int .i64 v) := RF.out.cell 3
          refine bodyPost_ret (v := .agg #[.int .i64 k0, .int .i64 f, .int .i64 x, .int .i64 v]) (by simp [results, Try.results20, go_sem, b0, b1, b2, b3]) rfl ?_
          exact ⟨k0, f, x, v, rfl, phE_of k1 (by omega) (by omega) hx1 hx2 (by omega) (by omega), sst (sst (sst (sst S7.out _ _ _ (by omega)) _ _ _ (by omega)) _ _ _ (by omega)) _ _ _ (by omega)⟩
      · have P5 := Lib.hid (PC.out.put 1 (.int .i64 364)); have R5 := Lib.hid (Blk.far RC.out w3.heap.size 1 (.int .i64 364) (by omega)); have S5 := Lib.hid (sst SC.out w3.heap.size 1 (.int .i64 364) (by omega))
        have e2 : (wc.setCell ⟨w3.heap.size, 1, none⟩ (.int .i64 364)).cell? ⟨w3.heap.size, 1, none⟩ = some (.int .i64 364) := P5.out.cell 1
        go_wp2
        go_region_held3 (fun w' => w'.cell? ⟨w3.heap.size, 1, none⟩ = some (.int .i64 364)) (simp [go_sem, *]) (first | (go_at_call 30; refine (next_any _ _ _ (by first | exact S5.out.now | exact S5.out.now.drew | exact (S5.out.now.alloc _).drew | exact S5.out.now.alloc _ | exact S5.out.now.drew.alloc _) (by omega) (by omega)).mono ?_; rintro e w6 ⟨r, r1, r2, rfl, hs6⟩; have S6 := Lib.hid (show Steps1 b w w6 from (by first | exact sts S5.out hs6 | exact sts (sdr S5.out) hs6 | exact sts (sdr (sal S5.out _)) hs6 | exact sts (sal S5.out _) hs6 | exact sts (sal (sdr S5.out) _) hs6)); have z6 := hs6.size; (try simp at z6); have P6 := Lib.hid (show Blk w6 w3.heap.size 27 #[.int .i64 k0, .int .i64 364, .int .i64 0, .int .i64 v] from (by first | exact P5.out.step hs6 (by omega) | exact P5.out.drew.step hs6 (by omega) | exact (P5.out.alloc _).drew.step hs6 (by omega) | exact (P5.out.alloc _).step hs6 (by omega) | exact (P5.out.drew.alloc _).step hs6 (by omega))); have R6 := Lib.hid (show Blk w6 (w.heap.size + 1) 27 #[.int .i64 0, .int .i64 0, .int .i64 0, .int .i64 0] from (by first | exact R5.out.step hs6 (by omega) | exact R5.out.drew.step hs6 (by omega) | exact (R5.out.alloc _).drew.step hs6 (by omega) | exact (R5.out.alloc _).step hs6 (by omega) | exact (R5.out.drew.alloc _).step hs6 (by omega))); have e6 : w6.cell? ⟨w3.heap.size, 1, none⟩ = some (.int .i64 364) := P6.out.cell 1; have g6 := P6.out.free 2; have d6 : w6.cell? ⟨w3.heap.size, 2, none⟩ = some (.int .i64 0) := P6.out.cell 2; have y6 := P6.out.lt; have hw6 : IntKind.i64.wrap (364 + r) = 364 + r := IntWalk.i64_in _ (by omega); clear hs6))
        all_goals
          obtain ⟨x, hx⟩ : ∃ x, (if 364 + r < 364 then 364 + r else 364) = x := ⟨_, rfl⟩
          rw [hx]
          have hx1 : 364 ≤ x := by split at hx <;> omega
          have hx2 : x ≤ 364 := by split at hx <;> omega
          clear hx hw6 e6 d6 g6
          have P7 := Lib.hid (P6.out.put 2 (.int .i64 x)); have R7 := Lib.hid (Blk.far R6.out w3.heap.size 2 (.int .i64 x) (by omega)); have S7 := Lib.hid (sst S6.out w3.heap.size 2 (.int .i64 x) (by omega))
          have p0 : (w6.setCell ⟨w3.heap.size, 2, none⟩ (.int .i64 x)).cell? ⟨w3.heap.size, 0, none⟩ = some (.int .i64 k0) := P7.out.cell 0
          have p1 : (w6.setCell ⟨w3.heap.size, 2, none⟩ (.int .i64 x)).cell? ⟨w3.heap.size, 1, none⟩ = some (.int .i64 364) := P7.out.cell 1
          have p2 : (w6.setCell ⟨w3.heap.size, 2, none⟩ (.int .i64 x)).cell? ⟨w3.heap.size, 2, none⟩ = some (.int .i64 x) := P7.out.cell 2
          have p3 : (w6.setCell ⟨w3.heap.size, 2, none⟩ (.int .i64 x)).cell? ⟨w3.heap.size, 3, none⟩ = some (.int .i64 v) := P7.out.cell 3
          have q0 : (w6.setCell ⟨w3.heap.size, 2, none⟩ (.int .i64 x)).cell? ⟨w.heap.size + 1, 0, none⟩ = some (.int .i64 0) := R7.out.cell 0; have t0 := R7.out.free 0
          have q1 : (w6.setCell ⟨w3.heap.size, 2, none⟩ (.int .i64 x)).cell? ⟨w.heap.size + 1, 1, none⟩ = some (.int .i64 0) := R7.out.cell 1; have t1 := R7.out.free 1
          have q2 : (w6.setCell ⟨w3.heap.size, 2, none⟩ (.int .i64 x)).cell? ⟨w.heap.size + 1, 2, none⟩ = some (.int .i64 0) := R7.out.cell 2; have t2 := R7.out.free 2
          have q3 : (w6.setCell ⟨w3.heap.size, 2, none⟩ (.int .i64 x)).cell? ⟨w.heap.size + 1, 3, none⟩ = some (.int .i64 0) := R7.out.cell 3; have t3 := R7.out.free 3
          have yR7 := R7.out.lt
          (try simp at yR7)
          go_wp2
          have RF := Lib.hid (((((R7.out.put 0 (.int .i64 k0)).put 1 (.int .i64 364)).put 2 (.int .i64 x)).put 3 (.int .i64 v)))
          have b0 : (((((w6.setCell ⟨w3.heap.size, 2, none⟩ (.int .i64 x)).setCell ⟨w.heap.size + 1, 0, none⟩ (.int .i64 k0)).setCell ⟨w.heap.size + 1, 1, none⟩ (.int .i64 364)).setCell ⟨w.heap.size + 1, 2, none⟩ (.int .i64 x)).setCell ⟨w.heap.size + 1, 3, none⟩ (.int .i64 v)).cell? ⟨w.heap.size + 1, 0, none⟩ = some (.int .i64 k0) := RF.out.cell 0
          have b1 : (((((w6.setCell ⟨w3.heap.size, 2, none⟩ (.int .i64 x)).setCell ⟨w.heap.size + 1, 0, none⟩ (.int .i64 k0)).setCell ⟨w.heap.size + 1, 1, none⟩ (.int .i64 364)).setCell ⟨w.heap.size + 1, 2, none⟩ (.int .i64 x)).setCell ⟨w.heap.size + 1, 3, none⟩ (.int .i64 v)).cell? ⟨w.heap.size + 1, 1, none⟩ = some (.int .i64 364) := RF.out.cell 1
          have b2 : (((((w6.setCell ⟨w3.heap.size, 2, none⟩ (.int .i64 x)).setCell ⟨w.heap.size + 1, 0, none⟩ (.int .i64 k0)).setCell ⟨w.heap.size + 1, 1, none⟩ (.int .i64 364)).setCell ⟨w.heap.size + 1, 2, none⟩ (.int .i64 x)).setCell ⟨w.heap.size + 1, 3, none⟩ (.int .i64 v)).cell? ⟨w.heap.size + 1, 2, none⟩ = some (.int .i64 x) := RF.out.cell 2
          have b3 : (((((w6.setCell ⟨w3.heap.size, 2, none⟩ (.int .i64 x)).setCell ⟨w.heap.size + 1, 0, none⟩ (.int .i64 k0)).setCell ⟨w.heap.size + 1, 1, none⟩ (.int .i64 364)).setCell ⟨w.heap.size + 1, 2, none⟩ (.int .i64 x)).setCell ⟨w.heap.size + 1, 3, none⟩ (.int .i64 v)).cell? ⟨w.heap.size + 1, 3, none⟩ = some (.int .i64 v) := RF.out.cell 3
          refine bodyPost_ret (v := .agg #[.int .i64 k0, .int .i64 364, .int .i64 x, .int .i64 v]) (by simp [results, Try.results20, go_sem, b0, b1, b2, b3]) rfl ?_
          exact ⟨k0, 364, x, v, rfl, phE_of k1 (by omega) (by omega) hx1 hx2 (by omega) (by omega), sst (sst (sst (sst S7.out _ _ _ (by omega)) _ _ _ (by omega)) _ _ _ (by omega)) _ _ _ (by omega)⟩
end Go.Proofs.Ytlfcdjgmegfjoaa
