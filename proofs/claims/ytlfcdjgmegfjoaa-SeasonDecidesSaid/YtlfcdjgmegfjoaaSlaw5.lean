/- The walk of SeasonKinds: it answers true. -/
import Derived.Test.YtlfcdjgmegfjoaaSplain2
namespace Go.Proofs.Ytlfcdjgmegfjoaa
open Go.RowKit Go.Shelf
set_option linter.unusedVariables false
set_option linter.unusedSimpArgs false

theorem ball {n : Nat} {w wx : World} (h : Below n w wx) (o : Obj) (hn : n ≤ w.heap.size := by omega) : Below n w (wx.alloc o) := h.alloc (Nat.le_trans hn h.size) o
theorem cell_two_at {w : World} {g : Nat} {x y : Value} {t : TypeId} (h : g = w.heap.size) : ∀ j u, [x, y][j]? = some u → (w.alloc (.cells #[x, y] t)).cell? ((⟨g, 0, none⟩ : Addr).add j) = some u := by
  subst h; exact cell_two_new w x y t
theorem row_app2 {W w1 : World} {n e size k : Nat} {v : Value} {xs : List Value} {t1 t2 : Obj} (hrow : W.ownsRow n e size v k xs) (hn : n ≤ W.heap.size) (hg : ((W.alloc t1).alloc t2).grownBy w1 v.ownBlock) : Below n W w1 :=
  (((Below.refl n W).alloc hn t1).alloc (by simp; omega) t2).grown hg (by simp; omega) fun j ej => (hrow.lt j ej).1
theorem bst' {n : Nat} {w wx : World} (h : Below n w wx) (b o : Nat) (u : Value) (hb : n ≤ b) : Below n w (wx.setCell ⟨b, o, none⟩ u) := h.setCell (p := ⟨b, o, none⟩) hb u
theorem take_ob {l : List (Int × Int)} {j : Nat} (h : j < l.length) : l.take (j + 1) = l.take j ++ [ob l j] := by
  rw [List.take_succ_eq_append_getElem h]; congr 1; simp [ob, h]
/-- The mirrored series, so far. -/
def KiL (W4 : World) (s : Int) (l : List (Int × Int)) (jv : Value) (wr : World) : Prop :=
  ∃ (j : Nat) (v : Value), jv = .int .i64 j ∧ j ≤ l.length ∧ Blk wr W4.heap.size 25 #[.int .i64 s, v] ∧ wr.ownsRow (W4.heap.size + 1) 34 2 v j (encO (mir (l.take j))) ∧ Below W4.heap.size W4 wr
/-- Behind the mirrored phase. -/
def KiC (W4 : World) (k0 f u v s : Int) (am : Option Addr) (len capm : Nat) (l : List (Int × Int)) (gq : Nat) (wx : World) : Prop :=
  Blk wx gq 27 #[.int .i64 (mirK k0), .int .i64 f, .int .i64 u, .int .i64 (1000 - v)] ∧ Blk wx W4.heap.size 25 #[.int .i64 s, .slice am len capm] ∧ Ser wx am (mir l) ∧ Below W4.heap.size W4 wx
set_option maxRecDepth 100000 in
set_option maxHeartbeats 8000000 in
theorem kinds_walk (a0 : Option Addr) (len0 cap0 : Nat) (z0 : List Int) (w : World) (hr : IsRow .i64 w a0 len0 cap0 z0) :
    Calls Try.prog 7 #[.slice a0 len0 cap0] w fun e w' => e = .returned (.bool true) ∧ Below w.heap.size w w' := by
  obtain ⟨i0, hi, hz0, hz1, hz2⟩ := info_parts Try.infoO
  have HI := Lib.hid hi
  have HZ := Lib.hid (And.intro hz0 (And.intro hz1 hz2))
  clear hi hz0 hz1 hz2
  go_enter Try.func7, Try.ntmps7
  go_wp2_with fail
  refine (new_any _ _ _ _ _ hr).mono ?_
  rintro e w1 ⟨rfl, hb1, hT1⟩
  have L1 := Lib.hid hb1; have T1 := Lib.hid hT1; have zb1 := hT1.lt
  clear hb1 hT1 hr
  go_wp2_with fail
  refine (series_any _ _ T1.out).mono ?_
  rintro e w2 ⟨s, l, sv, rfl, s1, s2, l6, hR, hrow, hnil, hs2⟩
  have L2 := Lib.hid (bos L1.out (Nat.le_refl _) hs2); have T2 := Lib.hid hs2.now
  have z2 := hs2.size
  obtain ⟨a, cap, rfl, hSN, hlc, hcm⟩ := ser_of_row hrow
  have SN2 := Lib.hid hSN; have RI := Lib.hid hR
  unfold maxLen at hcm
  clear hs2 hrow hSN hnil hR L1 T1
  obtain ⟨len, hlen⟩ : ∃ n, l.length = n := ⟨_, rfl⟩
  have HLEN := Lib.hid hlen
  rw [hlen] at l6 hlc ⊢
  clear hlen
  have BS2 := Lib.hid (Blk.fresh (w := w2) (g := w2.heap.size) (t := 25) (cs := #[.int .i64 s, .slice a len cap]) rfl)
  have L2b := Lib.hid (bal L2.out (.cells #[.int .i64 s, .slice a len cap] 25)); have T2b := Lib.hid (T2.out.alloc (.cells #[.int .i64 s, .slice a len cap] 25)); have SN2b := Lib.hid (SN2.out.below ((Below.refl _ _).alloc (Nat.le_refl _) (.cells #[.int .i64 s, .slice a len cap] 25)))
  go_wp2_with fail
  refine (phase_any _ w1.heap.size s a len cap l _ T2b.out zb1 SN2b.out HLEN.out RI.out).mono ?_
  rintro e w3 ⟨k0, f, u, v, rfl, hph, hs3⟩
  have L3 := Lib.hid (bos L2b.out (Nat.le_refl _) hs3); have BS3 := Lib.hid (BS2.out.step hs3 (by omega)); have SN3 := Lib.hid (SN2b.out.step hs3 zb1); have PE := Lib.hid hph; have T3 := Lib.hid hs3.now
  have z3 := hs3.size; (try simp at z3)
  clear hs3 hph L2 T2 SN2 BS2 L2b T2b SN2b
  go_upto_region 4 with fail
  have BP4 := Lib.hid (Blk.fresh (w := w3) (g := w3.heap.size) (t := 27) (cs := #[.int .i64 k0, .int .i64 f, .int .i64 u, .int .i64 v]) rfl)
  have BS4 := Lib.hid (BS3.out.alloc (.cells #[.int .i64 k0, .int .i64 f, .int .i64 u, .int .i64 v] 27)); have SN4 := Lib.hid (SN3.out.1.alloc (.cells #[.int .i64 k0, .int .i64 f, .int .i64 u, .int .i64 v] 27)); have L4 := Lib.hid (bal L3.out (.cells #[.int .i64 k0, .int .i64 f, .int .i64 u, .int .i64 v] 27))
  have hz4 : (w3.alloc (.cells #[.int .i64 k0, .int .i64 f, .int .i64 u, .int .i64 v] 27)).heap.size = w3.heap.size + 1 := by simp
  obtain ⟨W4, hW4⟩ : ∃ W, w3.alloc (.cells #[.int .i64 k0, .int .i64 f, .int .i64 u, .int .i64 v] 27) = W := ⟨_, rfl⟩
  rw [hW4] at BP4 BS4 SN4 L4 hz4 ⊢
  have z4 : w3.heap.size < W4.heap.size := by omega
  clear hW4 hz4 BS3 SN3 L3 T3
  have x0 : W4.cell? ⟨w2.heap.size, 0, none⟩ = some (.int .i64 s) := BS4.out.cell 0; have x1 : W4.cell? ⟨w2.heap.size, 1, none⟩ = some (.slice a len cap) := BS4.out.cell 1
  have BM0 := Lib.hid (Blk.fresh (w := W4) (g := W4.heap.size) (t := 25) (cs := #[.int .i64 s, .slice none 0 0]) rfl)
  have SX4 := SN4
  have y24 : w2.heap.size < W4.heap.size := by omega
  go_wp2_with fail
  clear x0 x1
  go_loopw [23] (fun jv wr => KiL W4 s l jv wr) (fun jv _ => len - (intOf jv).toNat)
  case atStart => exact ⟨0, _, rfl, by omega, BM0.out, World.ownsRow_nil _ _ _ _, ball (Below.refl _ _) _ (Nat.le_refl _)⟩
  case round =>
    obtain ⟨j, vm, rfl, hj, hm, hrow, hB⟩ := hrel
    rw [HLEN.out] at hj
    have zr := hB.size
    have BM := Lib.hid hm; have RR := Lib.hid hrow; have LL := Lib.hid hB
    have m0 : wr.cell? ⟨W4.heap.size, 0, none⟩ = some (.int .i64 s) := hm.cell 0; have m1 : wr.cell? ⟨W4.heap.size, 1, none⟩ = some vm := hm.cell 1; have ym := hm.lt; have fm := hm.free 1
    have SX := Lib.hid (SX4.out.below hB)
    clear hm hrow hB
    by_cases hlt : j < len
    · have hlt' : (j : Int) < (len : Int) := by omega
      obtain ⟨kb, off, rfl, c0, c1⟩ := SX.out j (by rw [HLEN.out]; exact hlt)
      have yk := World.block_lt_of_cell? _ _ c0
      have ra := right_at RI.out j (by rw [HLEN.out]; exact hlt)
      have TK : RowKit.Hid (mir (l.take (j + 1)) = mir (l.take j) ++ [((ob l j).1, 1000 - (ob l j).2)]) := Lib.hid (by rw [take_ob (by rw [HLEN.out]; exact hlt), mir_snoc])
      generalize (ob l j).1 = od at c0 ra TK
      generalize (ob l j).2 = og at c1 ra TK
      obtain ⟨ra1, ra2, ra3, ra4⟩ := ra
      go_wp2_with (at_builtin; refine wpList_append_own _ rfl _ _ 23 rfl (W4.heap.size + 1) 34 i0 (.agg #[.int .i64 0, .int .i64 0]) 2 16 Try.underlying23 HI.out HZ.out.1 HZ.out.2.1 HZ.out.2.2 rfl (by decide) _ _ _ rfl ((RR.out.alloc _).alloc _) ⟨wr.heap.size + 1, 0, none⟩ 1 1 [.int .i64 od, .int .i64 (1000 - og)] rfl (by simp) (cell_two_at (by simp)) (by simp [Value.oneCell']) (by unfold maxLen; omega) (by omega) (by simp; omega) ?_; intro v2 w9 hown' hgrow _; obtain ⟨g', cap', rfl⟩ := ownsRow_succ hown'; have hq := row_app2 RR.out (by omega) hgrow; have X9 : Blk w9 W4.heap.size 25 #[.int .i64 s, vm] := (hq.block _ (by omega)).trans BM.out; have f9 := X9.free 1; have c9 : w9.cell? ⟨W4.heap.size, 1, none⟩ = some vm := X9.cell 1; have y9 := X9.lt; have L9 := Lib.hid (LL.out.trans (hq.mono (by omega))); have W9 := Lib.hid hown'; replace X9 := Lib.hid X9; clear hown' hgrow hq)
      go_roundw
      case rel => exact ⟨j + 1, _, by go_num, by rw [HLEN.out]; omega, X9.out.put 1 _, by rw [TK.out, encO_snoc]; exact W9.out.kept (grownBy_set _ _ 1 _) (own_ne W9.out (by omega)), bst' L9.out _ _ _ (by omega)⟩
      case measure => simp [intOf]; omega
    · have hjl : j = len := by omega
      obtain rfl : len = j := hjl.symm
      have hml : (mir l).length = len := by rw [mir_length, HLEN.out]
      obtain ⟨am, capm, hvm, hSM, hlm, hcmm⟩ := ser_of_row (l := mir l) (v := vm) (n := W4.heap.size + 1) (w := wr) (by rw [hml]; have := RR.out; rw [← HLEN.out, List.take_length, HLEN.out] at this; exact this)
      rw [hml] at hvm hlm
      subst hvm
      unfold maxLen at hcmm
      have HLM := Lib.hid hml
      have SM := Lib.hid hSM.1
      have BP := Lib.hid (BP4.out.below LL.out)
      have p0 : wr.cell? ⟨w3.heap.size, 0, none⟩ = some (.int .i64 k0) := BP.out.cell 0; have p1 : wr.cell? ⟨w3.heap.size, 1, none⟩ = some (.int .i64 f) := BP.out.cell 1; have p2 : wr.cell? ⟨w3.heap.size, 2, none⟩ = some (.int .i64 u) := BP.out.cell 2; have p3 : wr.cell? ⟨w3.heap.size, 3, none⟩ = some (.int .i64 v) := BP.out.cell 3; have yp := BP.out.lt
      have hge : ¬ (len : Int) < (len : Int) := by omega
      obtain ⟨k1, k4, f0, fu, hu, hv⟩ := phE_ok PE.out
      have hv1 := hv.1; have hv2 := hv.2
      clear hml hSM hu hv m0 m1 fm RR
      go_upto_region 12 with fail
      go_cut [] (fun wx => KiC W4 k0 f u v s am len capm l wr.heap.size wx)
      case first =>
        obtain rfl | rfl | rfl | rfl : k0 = 1 ∨ k0 = 2 ∨ k0 = 3 ∨ k0 = 4 := by omega
        all_goals
          go_wp2_with fail
          go_meet
          case rel => exact ⟨(Blk.fresh rfl).alloc _, (BM.out.alloc _).alloc _, (SM.out.alloc _).alloc _, ball (ball LL.out _) _⟩
      case rest =>
        obtain ⟨hq, hm, hsm, hB⟩ := hcut
        have zc := hB.size
        obtain ⟨gq, hgq⟩ : ∃ g, wr.heap.size = g := ⟨_, rfl⟩
        rw [hgq] at hq ⊢
        have BQ := Lib.hid hq; have BM := Lib.hid hm; have SM := Lib.hid hsm; have LL := Lib.hid hB
        have BS := Lib.hid (BS4.out.below hB); have BP := Lib.hid (BP4.out.below hB); have SX := Lib.hid (SX4.out.below hB)
        have bs0 := BS.out.cell 0; have bs1 := BS.out.cell 1; have ybs := BS.out.lt; have bp0 := BP.out.cell 0; have bp1 := BP.out.cell 1; have bp2 := BP.out.cell 2; have bp3 := BP.out.cell 3; have ybp := BP.out.lt; have bm0 := BM.out.cell 0; have bm1 := BM.out.cell 1; have ybm := BM.out.lt; have bq0 := BQ.out.cell 0; have bq1 := BQ.out.cell 1; have bq2 := BQ.out.cell 2; have bq3 := BQ.out.cell 3; have ybq := BQ.out.lt; (try simp at bs0 bs1 bp0 bp1 bp2 bp3 bm0 bm1 bq0 bq1 bq2 bq3)
        clear hgq hq hm hsm hB p0 p1 p2 p3 yp
        have RM := Lib.hid (right_mir RI.out); have PM := Lib.hid (phE_mir PE.out)
        obtain ⟨D, hD⟩ : ∃ D, decP s l k0 f u v = D := ⟨_, rfl⟩
        have HD := Lib.hid hD
        have HDM : RowKit.Hid (decP s (mir l) (mirK k0) f u (1000 - v) = D) := Lib.hid (by rw [dec_mir RI.out PE.out]; exact hD)
        have HM2 : RowKit.Hid (mtG (decPp s l) [(k0, f, u, v), (k0, f, u, v)] = D) := Lib.hid (by
          have h1 := decP_cases RI.out PE.out
          rw [hD] at h1
          unfold mtG
          rw [if_pos (by simp [allOK, ph, pE, PE.out])]
          show min (min 1 (decP s l k0 f u v)) (decP s l k0 f u v) = D
          rw [hD]; omega)
        have HM0 : RowKit.Hid (mtG (decPp s l) [] = 1) := Lib.hid rfl
        clear hD
        have tok1 : True := trivial
        have tok2 : True := trivial
        have tok3 : True := trivial
        have tok4 : True := trivial
        have tok5 : True := trivial
        go_wp2_with fail
        go_region_held3 (fun w' => w'.cell? ⟨w2.heap.size, 0, none⟩ = some (.int .i64 s) ∧ w'.cell? ⟨w2.heap.size, 1, none⟩ = some (.slice a len cap) ∧ w'.cell? ⟨w3.heap.size, 0, none⟩ = some (.int .i64 k0) ∧ w'.cell? ⟨w3.heap.size, 1, none⟩ = some (.int .i64 f) ∧ w'.cell? ⟨w3.heap.size, 2, none⟩ = some (.int .i64 u) ∧ w'.cell? ⟨w3.heap.size, 3, none⟩ = some (.int .i64 v) ∧ w'.cell? ⟨W4.heap.size, 0, none⟩ = some (.int .i64 s) ∧ w'.cell? ⟨W4.heap.size, 1, none⟩ = some (.slice am len capm) ∧ w'.cell? ⟨gq, 0, none⟩ = some (.int .i64 (mirK k0)) ∧ w'.cell? ⟨gq, 1, none⟩ = some (.int .i64 f) ∧ w'.cell? ⟨gq, 2, none⟩ = some (.int .i64 u) ∧ w'.cell? ⟨gq, 3, none⟩ = some (.int .i64 (1000 - v))) (simp [go_sem, *])
          (first
          | (go_at_call 23; have _t := tok1; refine (pDecide_ok s a len cap l _ (by first | exact SX.out | exact SX.out.drew | exact SX.out.alloc _ | exact (SX.out.alloc _).drew) HLEN.out (by omega) k0 f u v RI.out PE.out).mono ?_; rw [HD.out]; rintro e x1 ⟨rfl, h1⟩; clear tok1 _t; have zz := h1.size; (try simp at zz); have BS := Lib.hid (show Blk _ (w2.heap.size) 25 #[.int .i64 s, .slice a len cap] from (by first | exact BS.out.below h1 | exact BS.out.drew.below h1 | exact (BS.out.alloc _).below h1 | exact ((BS.out.alloc _).drew).below h1)); have BP := Lib.hid (show Blk _ (w3.heap.size) 27 #[.int .i64 k0, .int .i64 f, .int .i64 u, .int .i64 v] from (by first | exact BP.out.below h1 | exact BP.out.drew.below h1 | exact (BP.out.alloc _).below h1 | exact ((BP.out.alloc _).drew).below h1)); have BM := Lib.hid (show Blk _ (W4.heap.size) 25 #[.int .i64 s, .slice am len capm] from (by first | exact BM.out.below h1 | exact BM.out.drew.below h1 | exact (BM.out.alloc _).below h1 | exact ((BM.out.alloc _).drew).below h1)); have BQ := Lib.hid (show Blk _ (gq) 27 #[.int .i64 (mirK k0), .int .i64 f, .int .i64 u, .int .i64 (1000 - v)] from (by first | exact BQ.out.below h1 | exact BQ.out.drew.below h1 | exact (BQ.out.alloc _).below h1 | exact ((BQ.out.alloc _).drew).below h1)); have LL := Lib.hid (show Below W4.heap.size W4 _ from (by first | exact LL.out.trans (h1.mono LL.out.size) | exact LL.out.drew.trans (h1.mono LL.out.size) | exact (ball LL.out _).trans (h1.mono (ball LL.out _).size) | exact (ball LL.out _).drew.trans (h1.mono (ball LL.out _).size))); have SM := Lib.hid (show Ser _ am (mir l) from (by first | exact SM.out.below h1 | exact SM.out.drew.below h1 | exact (SM.out.alloc _).below h1 | exact ((SM.out.alloc _).drew).below h1)); have SX := Lib.hid (show Ser _ a l from (by first | exact SX.out.below h1 | exact SX.out.drew.below h1 | exact (SX.out.alloc _).below h1 | exact ((SX.out.alloc _).drew).below h1)); have bs0 := BS.out.cell 0; have bs1 := BS.out.cell 1; have ybs := BS.out.lt; have bp0 := BP.out.cell 0; have bp1 := BP.out.cell 1; have bp2 := BP.out.cell 2; have bp3 := BP.out.cell 3; have ybp := BP.out.lt; have bm0 := BM.out.cell 0; have bm1 := BM.out.cell 1; have ybm := BM.out.lt; have bq0 := BQ.out.cell 0; have bq1 := BQ.out.cell 1; have bq2 := BQ.out.cell 2; have bq3 := BQ.out.cell 3; have ybq := BQ.out.lt; (try simp at bs0 bs1 bp0 bp1 bp2 bp3 bm0 bm1 bq0 bq1 bq2 bq3); clear h1)
          | (go_at_call 23; have _t := tok2; refine (pDecide_ok s am len capm (mir l) _ (by first | exact SM.out | exact SM.out.drew | exact SM.out.alloc _ | exact (SM.out.alloc _).drew) HLM.out (by omega) (mirK k0) f u (1000 - v) RM.out PM.out).mono ?_; rw [HDM.out]; rintro e x2 ⟨rfl, h2⟩; clear tok2 _t; have zz := h2.size; (try simp at zz); have BS := Lib.hid (show Blk _ (w2.heap.size) 25 #[.int .i64 s, .slice a len cap] from (by first | exact BS.out.below h2 | exact BS.out.drew.below h2 | exact (BS.out.alloc _).below h2 | exact ((BS.out.alloc _).drew).below h2)); have BP := Lib.hid (show Blk _ (w3.heap.size) 27 #[.int .i64 k0, .int .i64 f, .int .i64 u, .int .i64 v] from (by first | exact BP.out.below h2 | exact BP.out.drew.below h2 | exact (BP.out.alloc _).below h2 | exact ((BP.out.alloc _).drew).below h2)); have BM := Lib.hid (show Blk _ (W4.heap.size) 25 #[.int .i64 s, .slice am len capm] from (by first | exact BM.out.below h2 | exact BM.out.drew.below h2 | exact (BM.out.alloc _).below h2 | exact ((BM.out.alloc _).drew).below h2)); have BQ := Lib.hid (show Blk _ (gq) 27 #[.int .i64 (mirK k0), .int .i64 f, .int .i64 u, .int .i64 (1000 - v)] from (by first | exact BQ.out.below h2 | exact BQ.out.drew.below h2 | exact (BQ.out.alloc _).below h2 | exact ((BQ.out.alloc _).drew).below h2)); have LL := Lib.hid (show Below W4.heap.size W4 _ from (by first | exact LL.out.trans (h2.mono LL.out.size) | exact LL.out.drew.trans (h2.mono LL.out.size) | exact (ball LL.out _).trans (h2.mono (ball LL.out _).size) | exact (ball LL.out _).drew.trans (h2.mono (ball LL.out _).size))); have SM := Lib.hid (show Ser _ am (mir l) from (by first | exact SM.out.below h2 | exact SM.out.drew.below h2 | exact (SM.out.alloc _).below h2 | exact ((SM.out.alloc _).drew).below h2)); have SX := Lib.hid (show Ser _ a l from (by first | exact SX.out.below h2 | exact SX.out.drew.below h2 | exact (SX.out.alloc _).below h2 | exact ((SX.out.alloc _).drew).below h2)); have bs0 := BS.out.cell 0; have bs1 := BS.out.cell 1; have ybs := BS.out.lt; have bp0 := BP.out.cell 0; have bp1 := BP.out.cell 1; have bp2 := BP.out.cell 2; have bp3 := BP.out.cell 3; have ybp := BP.out.lt; have bm0 := BM.out.cell 0; have bm1 := BM.out.cell 1; have ybm := BM.out.lt; have bq0 := BQ.out.cell 0; have bq1 := BQ.out.cell 1; have bq2 := BQ.out.cell 2; have bq3 := BQ.out.cell 3; have ybq := BQ.out.lt; (try simp at bs0 bs1 bp0 bp1 bp2 bp3 bm0 bm1 bq0 bq1 bq2 bq3); clear h2)
          | (go_at_call 25; have _t := tok3; refine (pMatch_ok s a len cap l _ (by first | exact SX.out | exact SX.out.drew | exact SX.out.alloc _ | exact (SX.out.alloc _).drew) HLEN.out (by omega) _ 2 2 [(k0, f, u, v), (k0, f, u, v)] (by first | exact phs_two (Blk.fresh (by simp)) | exact phs_two (Blk.fresh (by simp)).drew | exact phs_two ((Blk.fresh (by simp)).alloc _) | exact phs_two ((Blk.fresh (by simp)).alloc _).drew) rfl (by omega) RI.out (by omega)).mono ?_; rw [HM2.out]; rintro e x3 ⟨rfl, h3⟩; clear tok3 _t; have zz := h3.size; (try simp at zz); have BS := Lib.hid (show Blk _ (w2.heap.size) 25 #[.int .i64 s, .slice a len cap] from (by first | exact BS.out.below h3 | exact BS.out.drew.below h3 | exact (BS.out.alloc _).below h3 | exact ((BS.out.alloc _).drew).below h3)); have BP := Lib.hid (show Blk _ (w3.heap.size) 27 #[.int .i64 k0, .int .i64 f, .int .i64 u, .int .i64 v] from (by first | exact BP.out.below h3 | exact BP.out.drew.below h3 | exact (BP.out.alloc _).below h3 | exact ((BP.out.alloc _).drew).below h3)); have BM := Lib.hid (show Blk _ (W4.heap.size) 25 #[.int .i64 s, .slice am len capm] from (by first | exact BM.out.below h3 | exact BM.out.drew.below h3 | exact (BM.out.alloc _).below h3 | exact ((BM.out.alloc _).drew).below h3)); have BQ := Lib.hid (show Blk _ (gq) 27 #[.int .i64 (mirK k0), .int .i64 f, .int .i64 u, .int .i64 (1000 - v)] from (by first | exact BQ.out.below h3 | exact BQ.out.drew.below h3 | exact (BQ.out.alloc _).below h3 | exact ((BQ.out.alloc _).drew).below h3)); have LL := Lib.hid (show Below W4.heap.size W4 _ from (by first | exact LL.out.trans (h3.mono LL.out.size) | exact LL.out.drew.trans (h3.mono LL.out.size) | exact (ball LL.out _).trans (h3.mono (ball LL.out _).size) | exact (ball LL.out _).drew.trans (h3.mono (ball LL.out _).size))); have SM := Lib.hid (show Ser _ am (mir l) from (by first | exact SM.out.below h3 | exact SM.out.drew.below h3 | exact (SM.out.alloc _).below h3 | exact ((SM.out.alloc _).drew).below h3)); have SX := Lib.hid (show Ser _ a l from (by first | exact SX.out.below h3 | exact SX.out.drew.below h3 | exact (SX.out.alloc _).below h3 | exact ((SX.out.alloc _).drew).below h3)); have bs0 := BS.out.cell 0; have bs1 := BS.out.cell 1; have ybs := BS.out.lt; have bp0 := BP.out.cell 0; have bp1 := BP.out.cell 1; have bp2 := BP.out.cell 2; have bp3 := BP.out.cell 3; have ybp := BP.out.lt; have bm0 := BM.out.cell 0; have bm1 := BM.out.cell 1; have ybm := BM.out.lt; have bq0 := BQ.out.cell 0; have bq1 := BQ.out.cell 1; have bq2 := BQ.out.cell 2; have bq3 := BQ.out.cell 3; have ybq := BQ.out.lt; (try simp at bs0 bs1 bp0 bp1 bp2 bp3 bm0 bm1 bq0 bq1 bq2 bq3); clear h3)
          | (go_at_call 23; have _t := tok4; refine (pDecide_ok s a len cap l _ (by first | exact SX.out | exact SX.out.drew | exact SX.out.alloc _ | exact (SX.out.alloc _).drew) HLEN.out (by omega) k0 f u v RI.out PE.out).mono ?_; rw [HD.out]; rintro e x4 ⟨rfl, h4⟩; clear tok4 _t; have zz := h4.size; (try simp at zz); have BS := Lib.hid (show Blk _ (w2.heap.size) 25 #[.int .i64 s, .slice a len cap] from (by first | exact BS.out.below h4 | exact BS.out.drew.below h4 | exact (BS.out.alloc _).below h4 | exact ((BS.out.alloc _).drew).below h4)); have BP := Lib.hid (show Blk _ (w3.heap.size) 27 #[.int .i64 k0, .int .i64 f, .int .i64 u, .int .i64 v] from (by first | exact BP.out.below h4 | exact BP.out.drew.below h4 | exact (BP.out.alloc _).below h4 | exact ((BP.out.alloc _).drew).below h4)); have BM := Lib.hid (show Blk _ (W4.heap.size) 25 #[.int .i64 s, .slice am len capm] from (by first | exact BM.out.below h4 | exact BM.out.drew.below h4 | exact (BM.out.alloc _).below h4 | exact ((BM.out.alloc _).drew).below h4)); have BQ := Lib.hid (show Blk _ (gq) 27 #[.int .i64 (mirK k0), .int .i64 f, .int .i64 u, .int .i64 (1000 - v)] from (by first | exact BQ.out.below h4 | exact BQ.out.drew.below h4 | exact (BQ.out.alloc _).below h4 | exact ((BQ.out.alloc _).drew).below h4)); have LL := Lib.hid (show Below W4.heap.size W4 _ from (by first | exact LL.out.trans (h4.mono LL.out.size) | exact LL.out.drew.trans (h4.mono LL.out.size) | exact (ball LL.out _).trans (h4.mono (ball LL.out _).size) | exact (ball LL.out _).drew.trans (h4.mono (ball LL.out _).size))); have SM := Lib.hid (show Ser _ am (mir l) from (by first | exact SM.out.below h4 | exact SM.out.drew.below h4 | exact (SM.out.alloc _).below h4 | exact ((SM.out.alloc _).drew).below h4)); have SX := Lib.hid (show Ser _ a l from (by first | exact SX.out.below h4 | exact SX.out.drew.below h4 | exact (SX.out.alloc _).below h4 | exact ((SX.out.alloc _).drew).below h4)); have bs0 := BS.out.cell 0; have bs1 := BS.out.cell 1; have ybs := BS.out.lt; have bp0 := BP.out.cell 0; have bp1 := BP.out.cell 1; have bp2 := BP.out.cell 2; have bp3 := BP.out.cell 3; have ybp := BP.out.lt; have bm0 := BM.out.cell 0; have bm1 := BM.out.cell 1; have ybm := BM.out.lt; have bq0 := BQ.out.cell 0; have bq1 := BQ.out.cell 1; have bq2 := BQ.out.cell 2; have bq3 := BQ.out.cell 3; have ybq := BQ.out.lt; (try simp at bs0 bs1 bp0 bp1 bp2 bp3 bm0 bm1 bq0 bq1 bq2 bq3); clear h4)
          | (go_at_call 25; have _t := tok5; refine (pMatch_ok s a len cap l _ (by first | exact SX.out | exact SX.out.drew | exact SX.out.alloc _ | exact (SX.out.alloc _).drew) HLEN.out (by omega) none 0 0 [] (fun j hj => absurd hj (by simp)) rfl (by omega) RI.out (by omega)).mono ?_; rw [HM0.out]; rintro e x5 ⟨rfl, h5⟩; clear tok5 _t; have zz := h5.size; (try simp at zz); have BS := Lib.hid (show Blk _ (w2.heap.size) 25 #[.int .i64 s, .slice a len cap] from (by first | exact BS.out.below h5 | exact BS.out.drew.below h5 | exact (BS.out.alloc _).below h5 | exact ((BS.out.alloc _).drew).below h5)); have BP := Lib.hid (show Blk _ (w3.heap.size) 27 #[.int .i64 k0, .int .i64 f, .int .i64 u, .int .i64 v] from (by first | exact BP.out.below h5 | exact BP.out.drew.below h5 | exact (BP.out.alloc _).below h5 | exact ((BP.out.alloc _).drew).below h5)); have BM := Lib.hid (show Blk _ (W4.heap.size) 25 #[.int .i64 s, .slice am len capm] from (by first | exact BM.out.below h5 | exact BM.out.drew.below h5 | exact (BM.out.alloc _).below h5 | exact ((BM.out.alloc _).drew).below h5)); have BQ := Lib.hid (show Blk _ (gq) 27 #[.int .i64 (mirK k0), .int .i64 f, .int .i64 u, .int .i64 (1000 - v)] from (by first | exact BQ.out.below h5 | exact BQ.out.drew.below h5 | exact (BQ.out.alloc _).below h5 | exact ((BQ.out.alloc _).drew).below h5)); have LL := Lib.hid (show Below W4.heap.size W4 _ from (by first | exact LL.out.trans (h5.mono LL.out.size) | exact LL.out.drew.trans (h5.mono LL.out.size) | exact (ball LL.out _).trans (h5.mono (ball LL.out _).size) | exact (ball LL.out _).drew.trans (h5.mono (ball LL.out _).size))); have SM := Lib.hid (show Ser _ am (mir l) from (by first | exact SM.out.below h5 | exact SM.out.drew.below h5 | exact (SM.out.alloc _).below h5 | exact ((SM.out.alloc _).drew).below h5)); have SX := Lib.hid (show Ser _ a l from (by first | exact SX.out.below h5 | exact SX.out.drew.below h5 | exact (SX.out.alloc _).below h5 | exact ((SX.out.alloc _).drew).below h5)); have bs0 := BS.out.cell 0; have bs1 := BS.out.cell 1; have ybs := BS.out.lt; have bp0 := BP.out.cell 0; have bp1 := BP.out.cell 1; have bp2 := BP.out.cell 2; have bp3 := BP.out.cell 3; have ybp := BP.out.lt; have bm0 := BM.out.cell 0; have bm1 := BM.out.cell 1; have ybm := BM.out.lt; have bq0 := BQ.out.cell 0; have bq1 := BQ.out.cell 1; have bq2 := BQ.out.cell 2; have bq3 := BQ.out.cell 3; have ybq := BQ.out.lt; (try simp at bs0 bs1 bp0 bp1 bp2 bp3 bm0 bm1 bq0 bq1 bq2 bq3); clear h5)
          | (go_at_call 9; refine (awake_any _).mono ?_; rintro e x6 ⟨rfl, h6⟩; have zz := h6.size; (try simp at zz); have BS := Lib.hid (show Blk _ (w2.heap.size) 25 #[.int .i64 s, .slice a len cap] from (by first | exact BS.out.below h6 | exact BS.out.drew.below h6 | exact (BS.out.alloc _).below h6 | exact ((BS.out.alloc _).drew).below h6)); have BP := Lib.hid (show Blk _ (w3.heap.size) 27 #[.int .i64 k0, .int .i64 f, .int .i64 u, .int .i64 v] from (by first | exact BP.out.below h6 | exact BP.out.drew.below h6 | exact (BP.out.alloc _).below h6 | exact ((BP.out.alloc _).drew).below h6)); have BM := Lib.hid (show Blk _ (W4.heap.size) 25 #[.int .i64 s, .slice am len capm] from (by first | exact BM.out.below h6 | exact BM.out.drew.below h6 | exact (BM.out.alloc _).below h6 | exact ((BM.out.alloc _).drew).below h6)); have BQ := Lib.hid (show Blk _ (gq) 27 #[.int .i64 (mirK k0), .int .i64 f, .int .i64 u, .int .i64 (1000 - v)] from (by first | exact BQ.out.below h6 | exact BQ.out.drew.below h6 | exact (BQ.out.alloc _).below h6 | exact ((BQ.out.alloc _).drew).below h6)); have LL := Lib.hid (show Below W4.heap.size W4 _ from (by first | exact LL.out.trans (h6.mono LL.out.size) | exact LL.out.drew.trans (h6.mono LL.out.size) | exact (ball LL.out _).trans (h6.mono (ball LL.out _).size) | exact (ball LL.out _).drew.trans (h6.mono (ball LL.out _).size))); have SM := Lib.hid (show Ser _ am (mir l) from (by first | exact SM.out.below h6 | exact SM.out.drew.below h6 | exact (SM.out.alloc _).below h6 | exact ((SM.out.alloc _).drew).below h6)); have SX := Lib.hid (show Ser _ a l from (by first | exact SX.out.below h6 | exact SX.out.drew.below h6 | exact (SX.out.alloc _).below h6 | exact ((SX.out.alloc _).drew).below h6)); have bs0 := BS.out.cell 0; have bs1 := BS.out.cell 1; have ybs := BS.out.lt; have bp0 := BP.out.cell 0; have bp1 := BP.out.cell 1; have bp2 := BP.out.cell 2; have bp3 := BP.out.cell 3; have ybp := BP.out.lt; have bm0 := BM.out.cell 0; have bm1 := BM.out.cell 1; have ybm := BM.out.lt; have bq0 := BQ.out.cell 0; have bq1 := BQ.out.cell 1; have bq2 := BQ.out.cell 2; have bq3 := BQ.out.cell 3; have ybq := BQ.out.lt; (try simp at bs0 bs1 bp0 bp1 bp2 bp3 bm0 bm1 bq0 bq1 bq2 bq3); clear h6))
        all_goals go_wp2
        all_goals go_ret
        all_goals exact ⟨rfl, L4.out.trans (LL.out.mono L4.out.size)⟩
end Go.Proofs.Ytlfcdjgmegfjoaa
