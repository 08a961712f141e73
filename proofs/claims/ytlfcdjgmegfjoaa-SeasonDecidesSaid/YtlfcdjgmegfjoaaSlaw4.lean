/- The walk of SeasonMore: it answers true. -/
import Derived.Test.YtlfcdjgmegfjoaaSlaw5
namespace Go.Proofs.Ytlfcdjgmegfjoaa
open Go.RowKit Go.Shelf
set_option linter.unusedVariables false
set_option linter.unusedSimpArgs false

theorem cell_two_drew {w : World} {g : Nat} {x y : Value} {t : TypeId} (h : g = w.heap.size) : ∀ j u, [x, y][j]? = some u → (w.alloc (.cells #[x, y] t)).drew.cell? ((⟨g, 0, none⟩ : Addr).add j) = some u := cell_two_at h
theorem row_app2d {W w1 : World} {n e size k : Nat} {v : Value} {xs : List Value} {t1 t2 : Obj} (hrow : W.ownsRow n e size v k xs) (hn : n ≤ W.heap.size) (hg : ((W.alloc t1).alloc t2).drew.grownBy w1 v.ownBlock) : Below n W w1 :=
  ((((Below.refl n W).alloc hn t1).alloc (by simp; omega) t2).drew).grown hg (by simp; omega) fun j ej => (hrow.lt j ej).1
theorem row_appd {W w1 : World} {n e size k : Nat} {v : Value} {xs : List Value} {t1 : Obj} (hrow : W.ownsRow n e size v k xs) (hn : n ≤ W.heap.size) (hg : (W.alloc t1).drew.grownBy w1 v.ownBlock) : Below n W w1 :=
  (((Below.refl n W).alloc hn t1).drew).grown hg (by simp; omega) fun j ej => (hrow.lt j ej).1
theorem own_lt {w : World} {n e size k : Nat} {v : Value} {xs : List Value} (h : w.ownsRow n e size v k xs) : some w.heap.size ≠ v.ownBlock := fun c => by
  have := (h.lt _ c.symm).2; omega
/-- The series with the day, so far. -/
def MrL (w5 : World) (s : Int) (l : List (Int × Int)) (g : Int → Int) (d : Nat) (dv jv : Value) (wr : World) : Prop :=
  ∃ (j : Nat) (m : List (Int × Int)) (done : Bool) (v : Value), dv = .bool done ∧ jv = .int .i64 j ∧ j ≤ l.length ∧ MoreI s l g d j m done ∧ Blk wr w5.heap.size 25 #[.int .i64 s, v] ∧ wr.ownsRow (w5.heap.size + 1) 34 2 v m.length (encO m) ∧ Below w5.heap.size w5 wr
/-- Behind it. -/
def MrC (w5 : World) (s : Int) (l : List (Int × Int)) (g : Int → Int) (wx : World) : Prop :=
  ∃ (m : List (Int × Int)) (v : Value), OnC s g m ∧ Cov l m l.length ∧ m.length ≤ l.length + 1 ∧ Blk wx w5.heap.size 25 #[.int .i64 s, v] ∧ wx.ownsRow (w5.heap.size + 1) 34 2 v m.length (encO m) ∧ Below w5.heap.size w5 wx
/-- Behind the two decisions. -/
def MrD (WX : World) (s : Int) (l m2 : List (Int × Int)) (k0 f u v : Int) (d1 d2 : Value) (wx : World) : Prop :=
  d1 = .int .i64 (decP s l k0 f u v) ∧ d2 = .int .i64 (decP s m2 k0 f u v) ∧ Below WX.heap.size WX wx
theorem MoreI.fin {s : Int} {l : List (Int × Int)} {g : Int → Int} {d : Nat} {m : List (Int × Int)} {done : Bool} (h : MoreI s l g d l.length m done) : OnC s g m ∧ Cov l m l.length ∧ (done = true → m.length ≤ l.length + 1) :=
  ⟨h.onc, h.cov, fun hd => by have := h.len; rw [hd] at this; simpa using this⟩
theorem MoreI.fin0 {s : Int} {l : List (Int × Int)} {g : Int → Int} {d : Nat} {m : List (Int × Int)} (h : MoreI s l g d l.length m false) (hR : chkS s l = 0) (hg : Fits s l g 365) (hd : d < 365) : OnC s g (m ++ [((d : Int), g d)]) ∧ Cov l (m ++ [((d : Int), g d)]) l.length ∧ (m ++ [((d : Int), g d)]).length ≤ l.length + 1 :=
  ⟨h.lay0 hR hg hd, h.cov.more _, by have := h.len; simp at this ⊢; omega⟩

set_option maxRecDepth 100000 in
set_option maxHeartbeats 8000000 in
theorem more_walk (a0 : Option Addr) (len0 cap0 : Nat) (z0 : List Int) (day : Int) (w : World) (hr : IsRow .i64 w a0 len0 cap0 z0) :
    Calls Try.prog 6 #[.slice a0 len0 cap0, .int .i64 day] w fun e w' => e = .returned (.bool true) ∧ Below w.heap.size w w' := by
  obtain ⟨i0, hi, hz0, hz1, hz2⟩ := info_parts Try.infoO
  have HI := Lib.hid hi
  have HZ := Lib.hid (And.intro hz0 (And.intro hz1 hz2))
  clear hi hz0 hz1 hz2
  go_enter Try.func6, Try.ntmps6
  go_wp2_with fail
  refine (new_any _ _ _ _ _ hr).mono ?_
  rintro e w1 ⟨rfl, hb1, hT1⟩
  have L1 := Lib.hid hb1; have T1 := Lib.hid hT1; have zb1 := hT1.lt
  clear hb1 hT1 hr
  go_wp2_with fail
  refine (series_any _ _ T1.out).mono ?_
  rintro e w2 ⟨s, l, sv, rfl, s1, s2, l6, hR, hrow, hnil, hs2⟩
  have L2 := Lib.hid (bos L1.out (Nat.le_refl _) hs2); have T2 := Lib.hid hs2.now
  have z2 := hs2.size
  obtain ⟨a, cap, rfl, hSN, hlc, hcm⟩ := ser_of_row hrow
  have SN2 := Lib.hid hSN; have RI := Lib.hid hR
  unfold maxLen at hcm
  clear hs2 hrow hSN hnil hR L1 T1
  obtain ⟨len, hlen⟩ : ∃ n, l.length = n := ⟨_, rfl⟩
  have HLEN := Lib.hid hlen
  rw [hlen] at l6 hlc ⊢
  clear hlen
  go_upto_region 3 with fail
  have BS3 := Lib.hid (Blk.fresh (w := w2) (g := w2.heap.size) (t := 25) (cs := #[.int .i64 s, .slice a len cap]) rfl)
  have L3 := Lib.hid (bal L2.out (.cells #[.int .i64 s, .slice a len cap] 25)); have T3 := Lib.hid (T2.out.alloc (.cells #[.int .i64 s, .slice a len cap] 25)); have SN3 := Lib.hid (SN2.out.below ((Below.refl _ _).alloc (Nat.le_refl _) (.cells #[.int .i64 s, .slice a len cap] 25)))
  have hz3 : (w2.alloc (.cells #[.int .i64 s, .slice a len cap] 25)).heap.size = w2.heap.size + 1 := by simp
  obtain ⟨W3, hW3⟩ : ∃ W, w2.alloc (.cells #[.int .i64 s, .slice a len cap] 25) = W := ⟨_, rfl⟩
  rw [hW3] at BS3 L3 T3 SN3 hz3 ⊢
  have z3 : w2.heap.size < W3.heap.size := by omega
  clear hW3 hz3 L2 T2 SN2
  have tok1 : True := trivial
  have tok2 : True := trivial
  have tok3 : True := trivial
  have b0 : W3.cell? ⟨w2.heap.size, 0, none⟩ = some (.int .i64 s) := BS3.out.cell 0; have b1 : W3.cell? ⟨w2.heap.size, 1, none⟩ = some (.slice a len cap) := BS3.out.cell 1
  have SS := Lib.hid (Steps1.refl T3.out)
  go_cut [7] (fun v wx => PhsC w.heap.size 3 W3 v wx)
  case first =>
    go_region_held3 (fun w' => w'.cell? ⟨w2.heap.size, 0, none⟩ = some (.int .i64 s) ∧ w'.cell? ⟨w2.heap.size, 1, none⟩ = some (.slice a len cap)) (simp [go_sem, *])
      (first
      | (go_at_call 20; have _t := tok1; refine (phase_any _ w1.heap.size s a len cap l _ (by first | exact SS.out.now | exact SS.out.now.drew) zb1 (by first | exact SN3.out | exact SN3.out.drew) HLEN.out RI.out).mono ?_; rintro e x1 ⟨k1, f1, u1, v1, rfl, hp1, hs1⟩; clear tok1 _t; have zp := hs1.size; (try simp at zp); have PE1 := Lib.hid hp1; have SS := Lib.hid (show Steps1 w.heap.size W3 _ from (by first | exact sts SS.out hs1 | exact sts (sdr SS.out) hs1)); have SN3 := Lib.hid (show SerN w1.heap.size _ a l from (by first | exact SN3.out.step hs1 zb1 | exact SN3.out.drew.step hs1 zb1)); have BS3 := Lib.hid (show Blk _ w2.heap.size 25 #[.int .i64 s, .slice a len cap] from (by first | exact BS3.out.step hs1 (by omega) | exact BS3.out.drew.step hs1 (by omega))); have b0 := BS3.out.cell 0; have b1 := BS3.out.cell 1; have yb := BS3.out.lt; (try simp at b0 b1); clear hs1 hp1)
      | (go_at_call 20; have _t := tok2; refine (phase_any _ w1.heap.size s a len cap l _ (by first | exact SS.out.now | exact SS.out.now.drew) zb1 (by first | exact SN3.out | exact SN3.out.drew) HLEN.out RI.out).mono ?_; rintro e x2 ⟨k2, f2, u2, v2, rfl, hp2, hs2⟩; clear tok2 _t; have zp := hs2.size; (try simp at zp); have PE2 := Lib.hid hp2; have SS := Lib.hid (show Steps1 w.heap.size W3 _ from (by first | exact sts SS.out hs2 | exact sts (sdr SS.out) hs2)); have SN3 := Lib.hid (show SerN w1.heap.size _ a l from (by first | exact SN3.out.step hs2 zb1 | exact SN3.out.drew.step hs2 zb1)); have BS3 := Lib.hid (show Blk _ w2.heap.size 25 #[.int .i64 s, .slice a len cap] from (by first | exact BS3.out.step hs2 (by omega) | exact BS3.out.drew.step hs2 (by omega))); have b0 := BS3.out.cell 0; have b1 := BS3.out.cell 1; have yb := BS3.out.lt; (try simp at b0 b1); clear hs2 hp2)
      | (go_at_call 20; have _t := tok3; refine (phase_any _ w1.heap.size s a len cap l _ (by first | exact SS.out.now | exact SS.out.now.drew) zb1 (by first | exact SN3.out | exact SN3.out.drew) HLEN.out RI.out).mono ?_; rintro e x3 ⟨k3, f3, u3, v3, rfl, hp3, hs3⟩; clear tok3 _t; have zp := hs3.size; (try simp at zp); have PE3 := Lib.hid hp3; have SS := Lib.hid (show Steps1 w.heap.size W3 _ from (by first | exact sts SS.out hs3 | exact sts (sdr SS.out) hs3)); have SN3 := Lib.hid (show SerN w1.heap.size _ a l from (by first | exact SN3.out.step hs3 zb1 | exact SN3.out.drew.step hs3 zb1)); have BS3 := Lib.hid (show Blk _ w2.heap.size 25 #[.int .i64 s, .slice a len cap] from (by first | exact BS3.out.step hs3 (by omega) | exact BS3.out.drew.step hs3 (by omega))); have b0 := BS3.out.cell 0; have b1 := BS3.out.cell 1; have yb := BS3.out.lt; (try simp at b0 b1); clear hs3 hp3))
    all_goals (go_wp2_with fail)
    all_goals go_meet
    all_goals
      (case rel => exact ⟨_, rfl, by have := SS.out.size; omega, ⟨[(k1, f1, u1, v1), (k2, f2, u2, v2), (k3, f3, u3, v3)], rfl, by simp [allOK, ph, pE, PE1.out, PE2.out, PE3.out], phs_of_blk [(k1, f1, u1, v1), (k2, f2, u2, v2), (k3, f3, u3, v3)] (Blk.fresh rfl)⟩, sal SS.out _⟩)
  case rest =>
    obtain ⟨gp, rfl, hgp, hph, hss⟩ := hcut
    have SN4 := Lib.hid (SN3.out.step hss zb1); have BS4 := Lib.hid (BS3.out.step hss (by omega)); have L4 := Lib.hid (bos L3.out (Nat.le_refl _) hss); have T4 := Lib.hid hss.now; have PH4 := Lib.hid hph
    have z4 := hss.size
    have b0 : wc.cell? ⟨w2.heap.size, 0, none⟩ = some (.int .i64 s) := BS4.out.cell 0; have b1 : wc.cell? ⟨w2.heap.size, 1, none⟩ = some (.slice a len cap) := BS4.out.cell 1; have yb := BS4.out.lt
    clear hph hss SN3 BS3 L3 T3 SS tok1 tok2 tok3
    go_wp2_with fail
    refine (curve_any _ w1.heap.size s a len cap l _ T4.out zb1 SN4.out HLEN.out RI.out).mono ?_
    rintro e w5 ⟨g, gl, capl, rfl, hgl, hcv, hfit, hs5⟩
    have SN5 := Lib.hid (SN4.out.step hs5 zb1).1; have BS5 := Lib.hid (BS4.out.step hs5 (by omega)); have L5 := Lib.hid (bos L4.out (Nat.le_refl _) hs5); have PH5 := Lib.hid (PH4.out.step hs5 (by omega)); have CV5 := Lib.hid hcv; have FIT := Lib.hid hfit
    have z5 := hs5.size
    have b0 : w5.cell? ⟨w2.heap.size, 0, none⟩ = some (.int .i64 s) := BS5.out.cell 0; have b1 : w5.cell? ⟨w2.heap.size, 1, none⟩ = some (.slice a len cap) := BS5.out.cell 1; have yb := BS5.out.lt
    clear hcv hfit hs5 SN4 BS4 L4 PH4 T4
    go_wp2_with fail
    refine (mod_any day 365 _ (by omega) (by omega)).mono ?_
    rintro e w6 ⟨rfl, hw6⟩
    obtain rfl : w5 = w6 := hw6.symm
    clear hw6
    obtain ⟨d, hd⟩ := Int.eq_ofNat_of_zero_le (modI_lo day 365 (by omega))
    have hd2 := modI_hi day 365 (by omega)
    rw [hd] at hd2 ⊢
    have hdl : d < 365 := by omega
    have hdl' : (d : Int) < ((365 : Nat) : Int) := by omega
    have hd0 : (0 : Int) ≤ (d : Int) := by omega
    clear hd
    have BM0 := Lib.hid (Blk.fresh (w := w5) (g := w5.heap.size) (t := 25) (cs := #[.int .i64 s, .slice none 0 0]) rfl)
    go_wp2_with fail
    go_loopw [11, 47] (fun dv jv wr => MrL w5 s l g d dv jv wr) (fun _ jv _ => len - (intOf jv).toNat)
    case atStart => exact ⟨0, [], false, _, rfl, rfl, by omega, MoreI.zero _ _ _ _, BM0.out, World.ownsRow_nil _ _ _ _, ball (Below.refl _ _) _ (Nat.le_refl _)⟩
    case round =>
      clear b0 b1 yb
      obtain ⟨j, m, done, vm, rfl, rfl, hj, hI, hm, hrow, hB⟩ := hrel
      rw [HLEN.out] at hj
      have zr := hB.size
      have MI := Lib.hid hI; have BM := Lib.hid hm; have RR := Lib.hid hrow; have LL := Lib.hid hB
      have hml : m.length ≤ j + 1 := by have := hI.len; split at this <;> omega
      have m0 : wr.cell? ⟨w5.heap.size, 0, none⟩ = some (.int .i64 s) := hm.cell 0; have m1 : wr.cell? ⟨w5.heap.size, 1, none⟩ = some vm := hm.cell 1; have ym := hm.lt; have fm := hm.free 1
      have SX := Lib.hid (SN5.out.below hB); have CV := Lib.hid (CV5.out.below hB)
      have cv : wr.cell? ⟨gl, d, none⟩ = some (.int .i64 (g (d : Int))) := CV.out d hdl
      have ycv := World.block_lt_of_cell? _ _ cv
      have ygl : gl < w5.heap.size := CV5.out.lt
      clear hI hm hrow hB
      by_cases hlt : j < len
      · have hlt' : (j : Int) < (len : Int) := by omega
        obtain ⟨kb, off, rfl, c0, c1⟩ := SX.out j (by rw [HLEN.out]; exact hlt)
        have yk := World.block_lt_of_cell? _ _ c0
        have ra := right_at RI.out j (by rw [HLEN.out]; exact hlt)
        have hjl : j < l.length := by rw [HLEN.out]; exact hlt
        have TAKE : RowKit.Hid (∀ dn, done = dn → (dn = false → (ob l j).1 < d) → MoreI s l g d (j + 1) (m ++ [ob l j]) dn) := Lib.hid fun dn e h => by subst e; exact MI.out.take RI.out FIT.out hjl h
        have PAST : RowKit.Hid (done = true → (d : Int) < (ob l j).1) := Lib.hid fun e => by subst e; exact MI.out.past RI.out hjl
        have BOTH : RowKit.Hid (done = false → (d : Int) < (ob l j).1 → MoreI s l g d (j + 1) (m ++ [((d : Int), g d)] ++ [ob l j]) true) := Lib.hid fun e h => by subst e; exact MI.out.both RI.out FIT.out hdl hjl h
        have SAME : RowKit.Hid (done = false → (ob l j).1 = d → MoreI s l g d (j + 1) (m ++ [((d : Int), g d)]) true) := Lib.hid fun e h => by subst e; exact MI.out.same RI.out FIT.out hdl hjl h
        have HO : RowKit.Hid (ob l j = ((ob l j).1, (ob l j).2)) := Lib.hid rfl
        obtain ⟨o, ho⟩ : ∃ o, ob l j = o := ⟨_, rfl⟩
        rw [ho] at c0 c1 ra TAKE PAST BOTH SAME HO
        clear ho hjl
        obtain ⟨od, og⟩ := o
        dsimp only at c0 c1
        have HO : RowKit.Hid (((od, og) : Int × Int) = (od, og)) := Lib.hid rfl
        obtain ⟨ra1, ra2, ra3, ra4⟩ := ra
        cases done with
        | true =>
          have hp := PAST.out rfl
          dsimp only at hp
          have hMI := Lib.hid (TAKE.out true rfl (fun h => by cases h))
          have hge : ¬ od < (d : Int) := by omega
          clear TAKE PAST BOTH SAME MI
          go_wp2_with (at_builtin; refine wpList_append_own _ rfl _ _ 23 rfl (w5.heap.size + 1) 34 i0 (.agg #[.int .i64 0, .int .i64 0]) 2 16 Try.underlying23 HI.out HZ.out.1 HZ.out.2.1 HZ.out.2.2 rfl (by decide) _ _ _ rfl ((RR.out.alloc _).alloc _) ⟨wr.heap.size + 1, 0, none⟩ 1 1 [.int .i64 od, .int .i64 og] rfl (by simp) (cell_two_at (by simp)) (by simp [Value.oneCell']) (by unfold maxLen; omega) (by omega) (by (try simp) <;> omega) ?_; intro v2 w11 hown' hgrow _; obtain ⟨g', cap', rfl⟩ := ownsRow_succ hown'; have hq := row_app2 RR.out (by (try simp) <;> omega) hgrow; have X11 : Blk w11 w5.heap.size 25 #[.int .i64 s, vm] := (hq.block _ (by omega)).trans BM.out; have f11 := X11.free 1; have c11 : w11.cell? ⟨w5.heap.size, 1, none⟩ = some (vm) := X11.cell 1; have y11 := X11.lt; have L11 := Lib.hid (LL.out.trans (hq.mono (by omega))); have W11 := Lib.hid hown'; replace X11 := Lib.hid X11; clear hown' hgrow hq)
          go_roundw
          case rel => exact ⟨j + 1, m ++ [(od, og)], true, _, rfl, by go_num, by rw [HLEN.out]; omega, hMI.out, X11.out.put 1 _, by have h := W11.out.kept (grownBy_set _ w5.heap.size 1 (.slice (some ⟨g', 0, none⟩) (m.length + 1) cap')) (own_ne W11.out (by omega)); rw [encO_snoc, List.length_append]; exact h, bst' L11.out _ _ _ (by omega)⟩
          case measure => simp [intOf]; omega
        | false =>
          rcases Int.lt_trichotomy od (d : Int) with hc | hc | hc
          · have hMI := Lib.hid (TAKE.out false rfl (fun _ => hc))
            clear TAKE PAST BOTH SAME MI
            go_wp2_with (at_builtin; refine wpList_append_own _ rfl _ _ 23 rfl (w5.heap.size + 1) 34 i0 (.agg #[.int .i64 0, .int .i64 0]) 2 16 Try.underlying23 HI.out HZ.out.1 HZ.out.2.1 HZ.out.2.2 rfl (by decide) _ _ _ rfl ((RR.out.alloc _).alloc _) ⟨wr.heap.size + 1, 0, none⟩ 1 1 [.int .i64 od, .int .i64 og] rfl (by simp) (cell_two_at (by simp)) (by simp [Value.oneCell']) (by unfold maxLen; omega) (by omega) (by (try simp) <;> omega) ?_; intro v2 w11 hown' hgrow _; obtain ⟨g', cap', rfl⟩ := ownsRow_succ hown'; have hq := row_app2 RR.out (by (try simp) <;> omega) hgrow; have X11 : Blk w11 w5.heap.size 25 #[.int .i64 s, vm] := (hq.block _ (by omega)).trans BM.out; have f11 := X11.free 1; have c11 : w11.cell? ⟨w5.heap.size, 1, none⟩ = some (vm) := X11.cell 1; have y11 := X11.lt; have L11 := Lib.hid (LL.out.trans (hq.mono (by omega))); have W11 := Lib.hid hown'; replace X11 := Lib.hid X11; clear hown' hgrow hq)
            go_roundw
            case rel => exact ⟨j + 1, m ++ [(od, og)], false, _, rfl, by go_num, by rw [HLEN.out]; omega, hMI.out, X11.out.put 1 _, by have h := W11.out.kept (grownBy_set _ w5.heap.size 1 (.slice (some ⟨g', 0, none⟩) (m.length + 1) cap')) (own_ne W11.out (by omega)); rw [encO_snoc, List.length_append]; exact h, bst' L11.out _ _ _ (by omega)⟩
            case measure => simp [intOf]; omega
          · have hMI := Lib.hid (SAME.out rfl hc)
            clear TAKE PAST BOTH SAME MI
            subst hc
            go_upto_region 12 with fail
            go_region_law (refine step_append_lies _ (by rfl) _ _ _ (by rfl) (w5.heap.size + 1) 34 i0 (.agg #[.int .i64 0, .int .i64 0]) 2 16 Try.underlying23 HI.out HZ.out.1 HZ.out.2.1 HZ.out.2.2 rfl (by decide) vm m.length (encO m) (by rfl) (by first | exact ((RR.out.alloc _).alloc _).drew | exact (RR.out.alloc _).alloc _) ⟨wr.heap.size + 1, 0, none⟩ 1 1 [.int .i64 ((d : Int)), .int .i64 (g (d : Int))] (by rfl) (by rfl) (by first | exact cell_two_at (by simp) | exact cell_two_drew (by simp)) (by simp [Value.oneCell']) (by omega) (by unfold maxLen; omega) (by omega) (by (try simp) <;> omega) _ rfl ?_; intro g9 cap9 w9 hown1 hgrow hat hlt9; have hq : Below (w5.heap.size + 1) wr w9 := (by first | exact row_app2 RR.out (by omega) hgrow | exact row_app2d RR.out (by omega) hgrow); have X9 : Blk w9 w5.heap.size 25 #[.int .i64 s, vm] := (hq.block _ (by omega)).trans BM.out; have f9 := X9.free 1; have c9 : w9.cell? ⟨w5.heap.size, 1, none⟩ = some vm := X9.cell 1; have y9 := X9.lt; have B13 : Blk w9 wr.heap.size 34 #[.int .i64 d, .int .i64 og] := (hgrow.block wr.heap.size (by (try simp) <;> omega) (own_lt RR.out)).trans (by first | exact (Blk.fresh rfl).alloc _ | exact ((Blk.fresh rfl).alloc _).drew); have L9 := Lib.hid (LL.out.trans (hq.mono (by omega))); have z9 := hq.size; have W9 := Lib.hid hown1; replace X9 := Lib.hid X9; have n13 : wr.heap.size ≠ w5.heap.size := (by omega); have d13 : w9.cell? ⟨wr.heap.size, 0, none⟩ = some (.int .i64 d) := B13.cell 0; have e13 : w9.cell? ⟨wr.heap.size, 1, none⟩ = some (.int .i64 og) := B13.cell 1; have y13 := B13.lt; replace B13 := Lib.hid B13; clear hown1 hgrow hq hat)
            all_goals
              go_wp2
              go_roundw
              case rel => exact ⟨j + 1, m ++ [((d : Int), g d)], true, _, rfl, by go_num, by rw [HLEN.out]; omega, hMI.out, X9.out.put 1 _, by have h := W9.out.kept (grownBy_set _ w5.heap.size 1 (.slice (some ⟨g9, 0, none⟩) (m.length + 1) cap9)) (own_ne W9.out (by omega)); rw [encO_snoc, List.length_append]; exact h, bst' L9.out _ _ _ (by omega)⟩
              case measure => simp [intOf]; omega
          · have hMI := Lib.hid (BOTH.out rfl hc)
            clear TAKE PAST BOTH SAME MI
            go_upto_region 12 with fail
            go_region_law (refine step_append_lies _ (by rfl) _ _ _ (by rfl) (w5.heap.size + 1) 34 i0 (.agg #[.int .i64 0, .int .i64 0]) 2 16 Try.underlying23 HI.out HZ.out.1 HZ.out.2.1 HZ.out.2.2 rfl (by decide) vm m.length (encO m) (by rfl) (by first | exact ((RR.out.alloc _).alloc _).drew | exact (RR.out.alloc _).alloc _) ⟨wr.heap.size + 1, 0, none⟩ 1 1 [.int .i64 ((d : Int)), .int .i64 (g (d : Int))] (by rfl) (by rfl) (by first | exact cell_two_at (by simp) | exact cell_two_drew (by simp)) (by simp [Value.oneCell']) (by omega) (by unfold maxLen; omega) (by omega) (by (try simp) <;> omega) _ rfl ?_; intro g9 cap9 w9 hown1 hgrow hat hlt9; have hq : Below (w5.heap.size + 1) wr w9 := (by first | exact row_app2 RR.out (by omega) hgrow | exact row_app2d RR.out (by omega) hgrow); have X9 : Blk w9 w5.heap.size 25 #[.int .i64 s, vm] := (hq.block _ (by omega)).trans BM.out; have f9 := X9.free 1; have c9 : w9.cell? ⟨w5.heap.size, 1, none⟩ = some vm := X9.cell 1; have y9 := X9.lt; have B13 : Blk w9 wr.heap.size 34 #[.int .i64 od, .int .i64 og] := (hgrow.block wr.heap.size (by (try simp) <;> omega) (own_lt RR.out)).trans (by first | exact (Blk.fresh rfl).alloc _ | exact ((Blk.fresh rfl).alloc _).drew); have L9 := Lib.hid (LL.out.trans (hq.mono (by omega))); have z9 := hq.size; have W9 := Lib.hid hown1; replace X9 := Lib.hid X9; have n13 : wr.heap.size ≠ w5.heap.size := (by omega); have d13 : w9.cell? ⟨wr.heap.size, 0, none⟩ = some (.int .i64 od) := B13.cell 0; have e13 : w9.cell? ⟨wr.heap.size, 1, none⟩ = some (.int .i64 og) := B13.cell 1; have y13 := B13.lt; replace B13 := Lib.hid B13; clear hown1 hgrow hq hat)
            all_goals
              have X10 := Lib.hid (X9.out.put 1 (.slice (some ⟨g9, 0, none⟩) (m.length + 1) cap9)); have L10 := Lib.hid (bst' L9.out w5.heap.size 1 (.slice (some ⟨g9, 0, none⟩) (m.length + 1) cap9) (by omega)); have W10 := Lib.hid (W9.out.kept (grownBy_set _ w5.heap.size 1 (.slice (some ⟨g9, 0, none⟩) (m.length + 1) cap9)) (own_ne W9.out (by omega)))
              have z10 : (w9.setCell ⟨w5.heap.size, 1, none⟩ (.slice (some ⟨g9, 0, none⟩) (m.length + 1) cap9)).heap.size = w9.heap.size := by simp [World.setCell]
              go_wp2_with (at_builtin; refine wpList_append_own _ rfl _ _ 23 rfl (w5.heap.size + 1) 34 i0 (.agg #[.int .i64 0, .int .i64 0]) 2 16 Try.underlying23 HI.out HZ.out.1 HZ.out.2.1 HZ.out.2.2 rfl (by decide) _ _ _ rfl (W10.out.alloc _) ⟨w9.heap.size, 0, none⟩ 1 1 [.int .i64 od, .int .i64 og] rfl (by simp) (cell_two_at (by simp)) (by simp [Value.oneCell']) (by unfold maxLen; omega) (by omega) (by (try simp) <;> omega) ?_; intro v2 w11 hown' hgrow _; obtain ⟨g', cap', rfl⟩ := ownsRow_succ hown'; have hq := row_app W10.out (by (try simp) <;> omega) hgrow; have X11 : Blk w11 w5.heap.size 25 #[.int .i64 s, .slice (some ⟨g9, 0, none⟩) (m.length + 1) cap9] := (hq.block _ (by omega)).trans X10.out; have f11 := X11.free 1; have c11 : w11.cell? ⟨w5.heap.size, 1, none⟩ = some (.slice (some ⟨g9, 0, none⟩) (m.length + 1) cap9) := X11.cell 1; have y11 := X11.lt; have L11 := Lib.hid (L10.out.trans (hq.mono (by omega))); have W11 := Lib.hid hown'; replace X11 := Lib.hid X11; clear hown' hgrow hq)
              go_roundw
              case rel => exact ⟨j + 1, m ++ [((d : Int), g d)] ++ [(od, og)], true, _, rfl, by go_num, by rw [HLEN.out]; omega, hMI.out, X11.out.put 1 _, by have h := W11.out.kept (grownBy_set _ w5.heap.size 1 (.slice (some ⟨g', 0, none⟩) (m.length + 1 + 1) cap')) (own_ne W11.out (by omega)); rw [encO_snoc, encO_snoc, List.length_append, List.length_append]; exact h, bst' L11.out _ _ _ (by omega)⟩
              case measure => simp [intOf]; omega
      · obtain rfl : len = j := by omega
        have hge : ¬ (len : Int) < (len : Int) := by omega
        have hMI : MoreI s l g d l.length m done := by rw [HLEN.out]; exact MI.out
        have FIN := Lib.hid hMI
        have hll : l.length ≤ 6 := by rw [HLEN.out]; exact l6
        clear hMI MI
        go_upto_if 82 with fail
        go_cut [] (fun wx => MrC w5 s l g wx)
        case first =>
          cases done with
          | true =>
            go_wp2
            go_meet
            case rel => exact ⟨m, vm, FIN.out.fin.1, FIN.out.fin.2.1, FIN.out.fin.2.2 rfl, BM.out, RR.out, LL.out⟩
          | false =>
            have F0 := Lib.hid (FIN.out.fin0 RI.out FIT.out hdl)
            go_wp2_with fail
            go_region_law (refine step_append_lies _ (by rfl) _ _ _ (by rfl) (w5.heap.size + 1) 34 i0 (.agg #[.int .i64 0, .int .i64 0]) 2 16 Try.underlying23 HI.out HZ.out.1 HZ.out.2.1 HZ.out.2.2 rfl (by decide) vm m.length (encO m) (by rfl) (by first | exact (RR.out.alloc _).drew | exact RR.out.alloc _) ⟨wr.heap.size, 0, none⟩ 1 1 [.int .i64 ((d : Int)), .int .i64 (g (d : Int))] (by rfl) (by rfl) (by first | exact cell_two_at (by simp) | exact cell_two_drew (by simp)) (by simp [Value.oneCell']) (by omega) (by unfold maxLen; omega) (by omega) (by (try simp) <;> omega) _ rfl ?_; intro g9 cap9 w9 hown1 hgrow hat hlt9; have hq : Below (w5.heap.size + 1) wr w9 := (by first | exact row_app RR.out (by omega) hgrow | exact row_appd RR.out (by omega) hgrow); have X9 : Blk w9 w5.heap.size 25 #[.int .i64 s, vm] := (hq.block _ (by omega)).trans BM.out; have f9 := X9.free 1; have c9 : w9.cell? ⟨w5.heap.size, 1, none⟩ = some vm := X9.cell 1; have y9 := X9.lt; have L9 := Lib.hid (LL.out.trans (hq.mono (by omega))); have z9 := hq.size; have W9 := Lib.hid hown1; replace X9 := Lib.hid X9; clear hown1 hgrow hq hat)
            all_goals
              go_wp2_with fail
              go_meet
              case rel => exact ⟨m ++ [((d : Int), g d)], _, F0.out.1, F0.out.2.1, F0.out.2.2, X9.out.put 1 _, by have h := W9.out.kept (grownBy_set _ w5.heap.size 1 (.slice (some ⟨g9, 0, none⟩) (m.length + 1) cap9)) (own_ne W9.out (by omega)); rw [encO_snoc, List.length_append]; exact h, bst' L9.out _ _ _ (by omega)⟩
        case rest =>
          clear FIN SX CV cv ycv m0 m1 ym fm BM RR LL hml
          obtain ⟨m2, v2, honc, hcov, hlen2, hbm, hrow, hB⟩ := hcut
          obtain ⟨am, capm, hvm, hSM, hlm, hcmm⟩ := ser_of_row hrow
          subst hvm
          unfold maxLen at hcmm
          obtain ⟨ml, hml⟩ : ∃ n, m2.length = n := ⟨_, rfl⟩
          have HML := Lib.hid hml
          have COV := Lib.hid hcov
          rw [hml] at hbm hlm hlen2
          have RM := Lib.hid (chkS_of (l := m2) (s := s) (by omega) (by omega) (by omega) honc.1)
          have BM := Lib.hid hbm; have SM := Lib.hid hSM.1; have SX := Lib.hid (SN5.out.below hB); have BS := Lib.hid (BS5.out.below hB); have PHn := Lib.hid (PH5.out.below hB); have LL := Lib.hid (btr L5.out hB)
          have zc := hB.size
          clear hml hcov honc hbm hrow hSM hB hll
          have bm0 := BM.out.cell 0; have bm1 := BM.out.cell 1; have ybm := BM.out.lt
          (try simp at bm0 bm1)
          go_wp2_with fail
          refine (pcheck_any s am ml capm m2 _ SM.out HML.out (by omega)).mono ?_
          rw [RM.out]
          rintro e w7 ⟨rfl, hb7⟩
          have BM7 := Lib.hid (BM.out.below hb7); have SM7 := Lib.hid (SM.out.below hb7); have SX7 := Lib.hid (SX.out.below hb7); have BS7 := Lib.hid (BS.out.below hb7); have PH7 := Lib.hid (PHn.out.below hb7); have L7 := Lib.hid (btr LL.out hb7)
          have z7 := hb7.size
          clear hb7 BM SM SX BS PHn LL bm0 bm1 ybm
          go_wp2_with fail
          go_loopw [99] (fun v wr => ChL w7 3 v wr) (fun v _ => 3 - (intOf v).toNat)
          case atStart => exact ⟨0, rfl, by omega, Below.refl _ _⟩
          case round =>
            obtain ⟨jj, rfl, hj3, hB⟩ := hrel
            have zr := hB.size
            have LL := Lib.hid hB
            by_cases hlt : jj < 3
            · have hlt' : (jj : Int) < 3 := by omega
              obtain ⟨pl, hpl, hok, hphs⟩ := PH7.out.below hB
              obtain ⟨kb, ko, hke, c0, c1, c2, c3⟩ := hphs jj (by omega)
              cases hke
              have hpe : pE (ph pl jj) = 0 := allOK_at hok hlt
              obtain ⟨⟨k0, f, u, v⟩, hq⟩ : ∃ q, ph pl jj = q := ⟨_, rfl⟩
              rw [hq] at c0 c1 c2 c3 hpe
              dsimp only at c0 c1 c2 c3
              simp only [Nat.zero_add] at c0 c1 c2 c3
              have PE : RowKit.Hid (phE k0 f u v = 0) := Lib.hid hpe
              have yg := World.block_lt_of_cell? _ _ c0
              obtain ⟨k1, k4, f0, fu, hu, hv⟩ := phE_ok PE.out
              have hu2 := hu.2
              have BS := Lib.hid (BS7.out.below hB); have BM := Lib.hid (BM7.out.below hB); have SX := Lib.hid (SX7.out.below hB); have SM := Lib.hid (SM7.out.below hB)
              clear hpl hok hphs hq hpe hv hB
              have MD := Lib.hid (more_dec (k0 := k0) (f := f) (u := u) (v := v) RI.out RM.out PE.out COV.out)
              have cbd := cov_bounds (s := s) COV.out u
              have HL1 : RowKit.Hid (lowAny s l u = lowB s l u) := by unfold lowAny; rw [if_pos ⟨RI.out, hu⟩]; exact Lib.hid rfl
              have HH1 : RowKit.Hid (highAny s l u = highB s l u) := by unfold highAny; rw [if_pos ⟨RI.out, hu⟩]; exact Lib.hid rfl
              have HL2 : RowKit.Hid (lowAny s m2 u = lowB s m2 u) := by unfold lowAny; rw [if_pos ⟨RM.out, hu⟩]; exact Lib.hid rfl
              have HH2 : RowKit.Hid (highAny s m2 u = highB s m2 u) := by unfold highAny; rw [if_pos ⟨RM.out, hu⟩]; exact Lib.hid rfl
              obtain ⟨cb1, cb2⟩ := cbd
              clear hu
              go_upto_region 23 with fail
              have BQ := Lib.hid (Blk.fresh (w := wr) (g := wr.heap.size) (t := 27) (cs := #[.int .i64 k0, .int .i64 f, .int .i64 u, .int .i64 v]) rfl)
              have BSx := Lib.hid (BS.out.alloc (.cells #[.int .i64 k0, .int .i64 f, .int .i64 u, .int .i64 v] 27)); have BMx := Lib.hid (BM.out.alloc (.cells #[.int .i64 k0, .int .i64 f, .int .i64 u, .int .i64 v] 27)); have SXx := Lib.hid (SX.out.alloc (.cells #[.int .i64 k0, .int .i64 f, .int .i64 u, .int .i64 v] 27)); have SMx := Lib.hid (SM.out.alloc (.cells #[.int .i64 k0, .int .i64 f, .int .i64 u, .int .i64 v] 27)); have LLx := Lib.hid (bal LL.out (.cells #[.int .i64 k0, .int .i64 f, .int .i64 u, .int .i64 v] 27))
              obtain ⟨gq, hgq⟩ : ∃ g, wr.heap.size = g := ⟨_, rfl⟩
              rw [hgq] at BQ ⊢
              obtain ⟨WX, hWX⟩ : ∃ W, wr.alloc (.cells #[.int .i64 k0, .int .i64 f, .int .i64 u, .int .i64 v] 27) = W := ⟨_, rfl⟩
              rw [hWX] at BQ BSx BMx SXx SMx LLx ⊢
              clear BS BM SX SM LL c0 c1 c2 c3 yg hgq hWX
              have BS := BSx; have BM := BMx; have SX := SXx; have SM := SMx; have LL := LLx
              have BQx := BQ
              have LX := Lib.hid (Below.refl WX.heap.size WX)
              have bs0 := BS.out.cell 0; have bs1 := BS.out.cell 1; have ybs := BS.out.lt; have bm0 := BM.out.cell 0; have bm1 := BM.out.cell 1; have ybm := BM.out.lt; have bq0 := BQ.out.cell 0; have bq1 := BQ.out.cell 1; have bq2 := BQ.out.cell 2; have bq3 := BQ.out.cell 3; have ybq := BQ.out.lt; (try simp at bs0 bs1 bm0 bm1 bq0 bq1 bq2 bq3)
              have tok1 : True := trivial
              have tok2 : True := trivial
              go_cut [16, 17] (fun d1 d2 wx => MrD WX s l m2 k0 f u v d1 d2 wx)
              case first =>
                go_region_held3 (fun w' => w'.cell? ⟨w2.heap.size, 0, none⟩ = some (.int .i64 s) ∧ w'.cell? ⟨w2.heap.size, 1, none⟩ = some (.slice a len cap) ∧ w'.cell? ⟨w5.heap.size, 0, none⟩ = some (.int .i64 s) ∧ w'.cell? ⟨w5.heap.size, 1, none⟩ = some (.slice am ml capm) ∧ w'.cell? ⟨gq, 0, none⟩ = some (.int .i64 k0) ∧ w'.cell? ⟨gq, 1, none⟩ = some (.int .i64 f) ∧ w'.cell? ⟨gq, 2, none⟩ = some (.int .i64 u) ∧ w'.cell? ⟨gq, 3, none⟩ = some (.int .i64 v)) (simp [go_sem, *])
                  (first
                  | (go_at_call 23; have _t := tok1; refine (pDecide_ok s a len cap l _ (by first | exact SX.out | exact SX.out.drew) HLEN.out (by omega) k0 f u v RI.out PE.out).mono ?_; rintro e x1 ⟨rfl, h1⟩; clear tok1 _t; have zz := h1.size; (try simp at zz); have BS := Lib.hid (show Blk _ (w2.heap.size) 25 #[.int .i64 s, .slice a len cap] from (by first | exact BS.out.below h1 | exact BS.out.drew.below h1)); have BM := Lib.hid (show Blk _ (w5.heap.size) 25 #[.int .i64 s, .slice am ml capm] from (by first | exact BM.out.below h1 | exact BM.out.drew.below h1)); have BQ := Lib.hid (show Blk _ (gq) 27 #[.int .i64 k0, .int .i64 f, .int .i64 u, .int .i64 v] from (by first | exact BQ.out.below h1 | exact BQ.out.drew.below h1)); have LX := Lib.hid (show Below WX.heap.size WX _ from (by first | exact btr LX.out h1 | exact btr (bdr LX.out) h1)); have SX := Lib.hid (show Ser _ a l from (by first | exact SX.out.below h1 | exact SX.out.drew.below h1)); have SM := Lib.hid (show Ser _ am m2 from (by first | exact SM.out.below h1 | exact SM.out.drew.below h1)); have bs0 := BS.out.cell 0; have bs1 := BS.out.cell 1; have ybs := BS.out.lt; have bm0 := BM.out.cell 0; have bm1 := BM.out.cell 1; have ybm := BM.out.lt; have bq0 := BQ.out.cell 0; have bq1 := BQ.out.cell 1; have bq2 := BQ.out.cell 2; have bq3 := BQ.out.cell 3; have ybq := BQ.out.lt; (try simp at bs0 bs1 bm0 bm1 bq0 bq1 bq2 bq3); clear h1)
                  | (go_at_call 23; have _t := tok2; refine (pDecide_ok s am ml capm m2 _ (by first | exact SM.out | exact SM.out.drew) HML.out (by omega) k0 f u v RM.out PE.out).mono ?_; rintro e x2 ⟨rfl, h2⟩; clear tok2 _t; have zz := h2.size; (try simp at zz); have BS := Lib.hid (show Blk _ (w2.heap.size) 25 #[.int .i64 s, .slice a len cap] from (by first | exact BS.out.below h2 | exact BS.out.drew.below h2)); have BM := Lib.hid (show Blk _ (w5.heap.size) 25 #[.int .i64 s, .slice am ml capm] from (by first | exact BM.out.below h2 | exact BM.out.drew.below h2)); have BQ := Lib.hid (show Blk _ (gq) 27 #[.int .i64 k0, .int .i64 f, .int .i64 u, .int .i64 v] from (by first | exact BQ.out.below h2 | exact BQ.out.drew.below h2)); have LX := Lib.hid (show Below WX.heap.size WX _ from (by first | exact btr LX.out h2 | exact btr (bdr LX.out) h2)); have SX := Lib.hid (show Ser _ a l from (by first | exact SX.out.below h2 | exact SX.out.drew.below h2)); have SM := Lib.hid (show Ser _ am m2 from (by first | exact SM.out.below h2 | exact SM.out.drew.below h2)); have bs0 := BS.out.cell 0; have bs1 := BS.out.cell 1; have ybs := BS.out.lt; have bm0 := BM.out.cell 0; have bm1 := BM.out.cell 1; have ybm := BM.out.lt; have bq0 := BQ.out.cell 0; have bq1 := BQ.out.cell 1; have bq2 := BQ.out.cell 2; have bq3 := BQ.out.cell 3; have ybq := BQ.out.lt; (try simp at bs0 bs1 bm0 bm1 bq0 bq1 bq2 bq3); clear h2))
                all_goals (go_wp2_with fail)
                all_goals go_meet
                all_goals
                  (case rel => exact ⟨rfl, rfl, LX.out⟩)
              case rest =>
                obtain ⟨rfl, rfl, hB⟩ := hcut
                have zc2 := hB.size
                have BS := Lib.hid (BSx.out.below hB); have BM := Lib.hid (BMx.out.below hB); have SX := Lib.hid (SXx.out.below hB); have SM := Lib.hid (SMx.out.below hB); have BQ := Lib.hid (BQx.out.below hB); have LX := Lib.hid (btr LLx.out hB)
                clear bs0 bs1 bm0 bm1 bq0 bq1 bq2 bq3 ybs ybm ybq
                have bs0 := BS.out.cell 0; have bs1 := BS.out.cell 1; have ybs := BS.out.lt; have bm0 := BM.out.cell 0; have bm1 := BM.out.cell 1; have ybm := BM.out.lt; have bq0 := BQ.out.cell 0; have bq1 := BQ.out.cell 1; have bq2 := BQ.out.cell 2; have bq3 := BQ.out.cell 3; have ybq := BQ.out.lt; (try simp at bs0 bs1 bm0 bm1 bq0 bq1 bq2 bq3)
                clear hB
                go_wp2_with fail
                refine (pBounds_any s a len cap l _ SX.out HLEN.out (by omega) u).mono ?_
                rw [HL1.out, HH1.out]
                rintro e x3 ⟨rfl, h3⟩
                have zz := h3.size; (try simp at zz); have BS := Lib.hid (show Blk _ (w2.heap.size) 25 #[.int .i64 s, .slice a len cap] from (by first | exact BS.out.below h3 | exact BS.out.drew.below h3)); have BM := Lib.hid (show Blk _ (w5.heap.size) 25 #[.int .i64 s, .slice am ml capm] from (by first | exact BM.out.below h3 | exact BM.out.drew.below h3)); have BQ := Lib.hid (show Blk _ (gq) 27 #[.int .i64 k0, .int .i64 f, .int .i64 u, .int .i64 v] from (by first | exact BQ.out.below h3 | exact BQ.out.drew.below h3)); have LX := Lib.hid (show Below w7.heap.size w7 _ from (by first | exact btr LX.out h3 | exact btr (bdr LX.out) h3)); have SX := Lib.hid (show Ser _ a l from (by first | exact SX.out.below h3 | exact SX.out.drew.below h3)); have SM := Lib.hid (show Ser _ am m2 from (by first | exact SM.out.below h3 | exact SM.out.drew.below h3)); have bs0 := BS.out.cell 0; have bs1 := BS.out.cell 1; have ybs := BS.out.lt; have bm0 := BM.out.cell 0; have bm1 := BM.out.cell 1; have ybm := BM.out.lt; have bq0 := BQ.out.cell 0; have bq1 := BQ.out.cell 1; have bq2 := BQ.out.cell 2; have bq3 := BQ.out.cell 3; have ybq := BQ.out.lt; (try simp at bs0 bs1 bm0 bm1 bq0 bq1 bq2 bq3); clear h3
                go_wp2_with fail
                refine (pBounds_any s am ml capm m2 _ SM.out HML.out (by omega) u).mono ?_
                rw [HL2.out, HH2.out]
                rintro e x4 ⟨rfl, h4⟩
                have zz := h4.size; (try simp at zz); have BS := Lib.hid (show Blk _ (w2.heap.size) 25 #[.int .i64 s, .slice a len cap] from (by first | exact BS.out.below h4 | exact BS.out.drew.below h4)); have BM := Lib.hid (show Blk _ (w5.heap.size) 25 #[.int .i64 s, .slice am ml capm] from (by first | exact BM.out.below h4 | exact BM.out.drew.below h4)); have BQ := Lib.hid (show Blk _ (gq) 27 #[.int .i64 k0, .int .i64 f, .int .i64 u, .int .i64 v] from (by first | exact BQ.out.below h4 | exact BQ.out.drew.below h4)); have LX := Lib.hid (show Below w7.heap.size w7 _ from (by first | exact btr LX.out h4 | exact btr (bdr LX.out) h4)); have SX := Lib.hid (show Ser _ a l from (by first | exact SX.out.below h4 | exact SX.out.drew.below h4)); have SM := Lib.hid (show Ser _ am m2 from (by first | exact SM.out.below h4 | exact SM.out.drew.below h4)); have bs0 := BS.out.cell 0; have bs1 := BS.out.cell 1; have ybs := BS.out.lt; have bm0 := BM.out.cell 0; have bm1 := BM.out.cell 1; have ybm := BM.out.lt; have bq0 := BQ.out.cell 0; have bq1 := BQ.out.cell 1; have bq2 := BQ.out.cell 2; have bq3 := BQ.out.cell 3; have ybq := BQ.out.lt; (try simp at bs0 bs1 bm0 bm1 bq0 bq1 bq2 bq3); clear h4
                obtain ⟨D1, hD1⟩ : ∃ D, decP s l k0 f u v = D := ⟨_, rfl⟩
                obtain ⟨D2, hD2⟩ : ∃ D, decP s m2 k0 f u v = D := ⟨_, rfl⟩
                rw [hD1, hD2] at MD ⊢
                clear hD1 hD2
                by_cases hd0 : D1 = 0
                · subst hd0
                  clear MD
                  go_wp2
                  go_roundw
                  case rel => exact ⟨jj + 1, by go_num, by omega, LX.out⟩
                  case measure => simp [intOf]; omega
                · have he : D2 = D1 := MD.out hd0
                  subst he
                  clear MD
                  go_wp2
                  go_roundw
                  case rel => exact ⟨jj + 1, by go_num, by omega, LX.out⟩
                  case measure => simp [intOf]; omega
            · have hge2 : ¬ (jj : Int) < 3 := by omega
              go_wp2_with fail
              refine (awake_any _).mono ?_
              rintro e w9 ⟨rfl, hb9⟩
              go_wp2
              go_ret
              exact ⟨rfl, L7.out.trans ((btr LL.out hb9).mono L7.out.size)⟩
end Go.Proofs.Ytlfcdjgmegfjoaa
