/- The walk of SeasonDecides: it answers true. -/
import Derived.Test.YtlfcdjgmegfjoaaSlaw4
namespace Go.Proofs.Ytlfcdjgmegfjoaa
open Go.RowKit Go.Shelf
set_option linter.unusedVariables false
set_option linter.unusedSimpArgs false

theorem Try.infoP : (Try.prog.info? 27).map (fun i => (i.zero, i.size, i.bytes)) = some (some (.agg #[.int .i64 0, .int .i64 0, .int .i64 0, .int .i64 0]), 4, 32) := by kernel_rfl
theorem empty_row4 {w : World} {g base : Nat} {t : TypeId} (h : Blk w g t #[]) (hb : base ≤ g) : w.ownsRow base t 4 (.slice (some ⟨g, 0, none⟩) 0 0) 0 [] := ⟨rfl, .inr ⟨g, 0, #[], rfl, hb, h, Nat.le_refl _, Nat.zero_le _, rfl, rfl⟩⟩
theorem oneCell_encP (l : List Ph) : ∀ u ∈ encP l, u.oneCell' = true := by
  intro u hu
  simp only [encP, List.mem_flatMap] at hu
  obtain ⟨o, _, h⟩ := hu
  simp at h
  rcases h with rfl | rfl | rfl | rfl <;> rfl
theorem phs_news {w : World} {ad : Addr} {pl : List Ph} (h : Phs w (some ad) pl) : ∀ j u, (encP pl)[j]? = some u → w.cell? (ad.add j) = some u := fun j u hu => by
  have hj : j < pl.length * 4 := by rw [← encP_length]; exact (List.getElem?_eq_some_iff.1 hu).1
  obtain ⟨b, off, e, h0, h1, h2, h3⟩ := h (j / 4) (by omega)
  cases e
  obtain ⟨e0, e1, e2, e3⟩ := encP_at pl (j / 4) (by omega)
  have ea : (⟨b, off, none⟩ : Addr).add j = ⟨b, off + j, none⟩ := by unfold Addr.add; split <;> simp_all
  rw [ea]
  have hm : j = j / 4 * 4 ∨ j = j / 4 * 4 + 1 ∨ j = j / 4 * 4 + 2 ∨ j = j / 4 * 4 + 3 := by omega
  rcases hm with hm | hm | hm | hm
  · rw [hm] at hu ⊢; rw [e0] at hu; rw [show off + j / 4 * 4 = off + (j / 4) * 4 from rfl, h0]; exact hu
  · rw [hm] at hu ⊢; rw [e1] at hu; rw [← Nat.add_assoc, h1]; exact hu
  · rw [hm] at hu ⊢; rw [e2] at hu; rw [← Nat.add_assoc, h2]; exact hu
  · rw [hm] at hu ⊢; rw [e3] at hu; rw [← Nat.add_assoc, h3]; exact hu
theorem ownsRow_plus {W : World} {base : Nat} {e : TypeId} {size : Nat} {v : Value} {n : Nat} {xs : List Value} (h : W.ownsRow base e size v (3 + n) xs) : ∃ g cap, v = .slice (some ⟨g, 0, none⟩) (3 + n) cap := by
  obtain ⟨g, cap, e, _⟩ := h.form (by omega); exact ⟨g, cap, e⟩
theorem row_app0 {W w1 : World} {n e size k : Nat} {v : Value} {xs : List Value} (hrow : W.ownsRow n e size v k xs) (hn : n ≤ W.heap.size) (hg : W.grownBy w1 v.ownBlock) : Below n W w1 :=
  (Below.refl n W).grown hg hn fun j ej => (hrow.lt j ej).1
theorem phs_of_row {w : World} {n g cap k : Nat} {P : List Ph} (h : w.ownsRow n 27 4 (.slice (some ⟨g, 0, none⟩) k cap) k (encP P)) : Phs w (some ⟨g, 0, none⟩) P := fun j hj => by
  have hc := World.ownsRow.cells h (g := g) rfl
  obtain ⟨e0, e1, e2, e3⟩ := encP_at P j hj
  have ea : ∀ i, (⟨g, 0, none⟩ : Addr).add i = ⟨g, 0 + i, none⟩ := fun i => by unfold Addr.add; split <;> simp_all
  refine ⟨g, 0, rfl, ?_, ?_, ?_, ?_⟩
  · have := hc _ _ e0; rwa [ea] at this
  · have := hc _ _ e1; rwa [ea] at this
  · have := hc _ _ e2; rwa [ea] at this
  · have := hc _ _ e3; rwa [ea] at this
theorem encP_append (l m : List Ph) : encP (l ++ m) = encP l ++ encP m := by simp [encP]
/-- A row of integers, read. -/
def RowZ (w : World) (a : Option Addr) (xs : List Int) (n : Nat) : Prop := ∀ i, i < n → ∃ g : Nat, a = some ⟨g, 0, none⟩ ∧ w.cell? ⟨g, i, none⟩ = some (.int .i64 (xs.getD i 0))
theorem RowZ.below {w wx : World} {a : Option Addr} {xs : List Int} {n : Nat} (h : RowZ w a xs n) (hb : Below w.heap.size w wx) : RowZ wx a xs n := fun i hi => by
  obtain ⟨g, e, hc⟩ := h i hi; exact ⟨g, e, bc1 hb hc⟩
theorem row_slice {w : World} {b : Nat} {v : Value} {xs : List Int} (h : w.ownsRow b 3 1 v xs.length (xs.map (Value.int .i64))) : ∃ a cap, v = .slice a xs.length cap ∧ RowZ w a xs xs.length ∧ xs.length ≤ 9223372036854775807 := by
  have hc := fun g hg => World.ownsRow.cells h (g := g) hg
  rcases h.2 with ⟨rfl, h0⟩ | ⟨g, cap, cur, rfl, _, _, hl1, hl2, _⟩
  · exact ⟨none, 0, by rw [h0], fun i hi => absurd hi (by omega), by omega⟩
  · refine ⟨some ⟨g, 0, none⟩, cap, rfl, fun i hi => ⟨g, rfl, ?_⟩, by unfold maxLen at hl2; omega⟩
    have := hc g rfl i (.int .i64 (xs.getD i 0)) (by simp [hi])
    have e : (⟨g, 0, none⟩ : Addr).add i = ⟨g, i, none⟩ := by unfold Addr.add; split <;> simp_all
    rwa [e] at this
/-- Behind the two Opens. -/
def OpC (WQ : World) (xs : List Int) (v14 v15 : Value) (wx : World) : Prop := wx.ownsRow 0 3 1 v14 xs.length (xs.map (Value.int .i64)) ∧ wx.ownsRow 0 3 1 v15 xs.length (xs.map (Value.int .i64)) ∧ Below WQ.heap.size WQ wx
/-- Behind a comparison: nothing parts. -/
def OpD (W : World) (v : Value) (wx : World) : Prop := v = .bool false ∧ Below W.heap.size W wx
/-- Behind the appends: the phases in one row. -/
def OpR (WX : World) (v53 v54 v55 : Value) (wx : World) : Prop :=
  ∃ (P : List Ph) (np g cap : Nat), v53 = .slice (some ⟨g, 0, none⟩) np cap ∧ v54 = .int .i64 np ∧ v55 = .int .i64 (0 : Nat) ∧ P.length = np ∧ np ≤ 11 ∧ Phs wx (some ⟨g, 0, none⟩) P ∧ Below WX.heap.size WX wx
def OpE (W : World) (v : Value) (wx : World) : Prop := v = .bool false ∧ Below W.heap.size W wx

set_option maxRecDepth 100000 in
set_option maxHeartbeats 16000000 in
theorem decides_walk (a0 : Option Addr) (len0 cap0 : Nat) (z0 : List Int) (rs : Int) (ra : Option Addr) (rlen rcap : Nat) (rl : List (Int × Int)) (pa : Option Addr) (plen pcap : Nat) (pl : List Ph) (w : World) (hr : IsRow .i64 w a0 len0 cap0 z0) (hS : Ser w ra rl) (hl : rl.length = rlen) (hcap : rlen ≤ 9223372036854775807)
    (hP : Phs w pa pl) (hpl : pl.length = plen) (hpc : plen ≤ 9223372036854775807) (hnone : pa = none → plen = 0 ∧ pcap = 0) :
    Calls Try.prog 4 #[.slice a0 len0 cap0, .agg #[.int .i64 rs, .slice ra rlen rcap], .slice pa plen pcap] w fun e w' => e = .returned (.bool true) ∧ Below w.heap.size w w' := by
  obtain ⟨i0, hi, hz0, hz1, hz2⟩ := info_parts Try.infoP
  have HI := Lib.hid hi
  have HZ := Lib.hid (And.intro hz0 (And.intro hz1 hz2))
  clear hi hz0 hz1 hz2
  have R := Lib.hid (hr.alloc (.cells #[.int .i64 rs, .slice ra rlen rcap] 25))
  have RS := Lib.hid hS; have RL := Lib.hid hl; have PS := Lib.hid hP; have HPL := Lib.hid hpl; have NO := Lib.hid hnone
  clear hr hS hl hP hpl hnone
  by_cases hbig : 70 < rlen ∨ 8 < plen
  · have hb' : 70 < (rlen : Int) ∨ 8 < (plen : Int) := by omega
    by_cases h70 : (70 : Int) < (rlen : Int)
    all_goals
      (try have h8 : (8 : Int) < (plen : Int) := by omega)
      clear hbig hb'
      go_enter Try.func4, Try.ntmps4
      go_wp2_with (go_at_call 9; refine (awake_any _).mono ?_; rintro e w1 ⟨rfl, hb1⟩)
      go_ret
      exact ⟨rfl, btr (bal (Below.refl _ _) _) hb1⟩
  have h70 : ¬ (70 : Int) < (rlen : Int) := by omega
  have h8 : ¬ (8 : Int) < (plen : Int) := by omega
  have hp8 : plen ≤ 8 := by omega
  clear hbig
  go_enter Try.func4, Try.ntmps4
  go_wp2_with fail
  refine (new_any _ _ _ _ _ R.out).mono ?_
  rintro e w1 ⟨rfl, hb1, hT1⟩
  have BR1 := Lib.hid (Blk.below (Blk.fresh (w := w) (g := w.heap.size) (t := 25) (cs := #[.int .i64 rs, .slice ra rlen rcap]) rfl) hb1)
  have L1 := Lib.hid (btr (bal (Below.refl w.heap.size w) (.cells #[.int .i64 rs, .slice ra rlen rcap] 25)) hb1)
  have zb1 := hT1.lt
  (try simp at zb1 hT1)
  have T1 := Lib.hid hT1
  clear hb1 hT1
  go_wp2_with fail
  refine (series_any _ _ T1.out).mono ?_
  rintro e w2 ⟨s, l, sv, rfl, s1, s2, l6, hR, hrow, hnil, hs2⟩
  have BR2 := Lib.hid (BR1.out.step hs2 (by omega)); have L2 := Lib.hid (bos L1.out (by omega) hs2); have T2 := Lib.hid hs2.now
  have z2 := hs2.size
  obtain ⟨a, cap, rfl, hSN, hlc, hcm⟩ := ser_of_row hrow
  have SN2 := Lib.hid hSN; have RI := Lib.hid hR
  unfold maxLen at hcm
  clear hs2 hrow hSN hnil hR L1 T1 BR1
  obtain ⟨len, hlen⟩ : ∃ n, l.length = n := ⟨_, rfl⟩
  have HLEN := Lib.hid hlen
  rw [hlen] at l6 hlc ⊢
  clear hlen
  go_upto_region 5 with fail
  have BS3 := Lib.hid (Blk.fresh (w := w2) (g := w2.heap.size) (t := 25) (cs := #[.int .i64 s, .slice a len cap]) rfl)
  have BR3 := Lib.hid (BR2.out.alloc (.cells #[.int .i64 s, .slice a len cap] 25)); have L3 := Lib.hid (bal L2.out (.cells #[.int .i64 s, .slice a len cap] 25)); have T3 := Lib.hid (T2.out.alloc (.cells #[.int .i64 s, .slice a len cap] 25)); have SN3 := Lib.hid (SN2.out.below ((Below.refl _ _).alloc (Nat.le_refl _) (.cells #[.int .i64 s, .slice a len cap] 25)))
  have hz3 : (w2.alloc (.cells #[.int .i64 s, .slice a len cap] 25)).heap.size = w2.heap.size + 1 := by simp
  obtain ⟨W3, hW3⟩ : ∃ W, w2.alloc (.cells #[.int .i64 s, .slice a len cap] 25) = W := ⟨_, rfl⟩
  rw [hW3] at BS3 BR3 L3 T3 SN3 hz3 ⊢
  have z3 : w2.heap.size < W3.heap.size := by omega
  clear hW3 hz3 L2 T2 SN2 BR2
  have tok1 : True := trivial
  have tok2 : True := trivial
  have tok3 : True := trivial
  have b0 : W3.cell? ⟨w2.heap.size, 0, none⟩ = some (.int .i64 s) := BS3.out.cell 0; have b1 : W3.cell? ⟨w2.heap.size, 1, none⟩ = some (.slice a len cap) := BS3.out.cell 1
  have SS := Lib.hid (Steps1.refl T3.out)
  go_cut [9] (fun v wx => PhsC (w.heap.size + 1) 3 W3 v wx)
  case first =>
    go_region_held3 (fun w' => w'.cell? ⟨w2.heap.size, 0, none⟩ = some (.int .i64 s) ∧ w'.cell? ⟨w2.heap.size, 1, none⟩ = some (.slice a len cap)) (simp [go_sem, *])
      (first
      | (go_at_call 20; have _t := tok1; refine (phase_any _ w1.heap.size s a len cap l _ (by first | exact SS.out.now | exact SS.out.now.drew) zb1 (by first | exact SN3.out | exact SN3.out.drew) HLEN.out RI.out).mono ?_; rintro e x1 ⟨k1, f1, u1, v1, rfl, hp1, hs1⟩; clear tok1 _t; have zp := hs1.size; (try simp at zp); have PE1 := Lib.hid hp1; have SS := Lib.hid (show Steps1 (w.heap.size + 1) W3 _ from (by first | exact sts SS.out hs1 | exact sts (sdr SS.out) hs1)); have SN3 := Lib.hid (show SerN w1.heap.size _ a l from (by first | exact SN3.out.step hs1 zb1 | exact SN3.out.drew.step hs1 zb1)); have BS3 := Lib.hid (show Blk _ w2.heap.size 25 #[.int .i64 s, .slice a len cap] from (by first | exact BS3.out.step hs1 (by omega) | exact BS3.out.drew.step hs1 (by omega))); have b0 := BS3.out.cell 0; have b1 := BS3.out.cell 1; have yb := BS3.out.lt; (try simp at b0 b1); clear hs1 hp1)
      | (go_at_call 20; have _t := tok2; refine (phase_any _ w1.heap.size s a len cap l _ (by first | exact SS.out.now | exact SS.out.now.drew) zb1 (by first | exact SN3.out | exact SN3.out.drew) HLEN.out RI.out).mono ?_; rintro e x2 ⟨k2, f2, u2, v2, rfl, hp2, hs2⟩; clear tok2 _t; have zp := hs2.size; (try simp at zp); have PE2 := Lib.hid hp2; have SS := Lib.hid (show Steps1 (w.heap.size + 1) W3 _ from (by first | exact sts SS.out hs2 | exact sts (sdr SS.out) hs2)); have SN3 := Lib.hid (show SerN w1.heap.size _ a l from (by first | exact SN3.out.step hs2 zb1 | exact SN3.out.drew.step hs2 zb1)); have BS3 := Lib.hid (show Blk _ w2.heap.size 25 #[.int .i64 s, .slice a len cap] from (by first | exact BS3.out.step hs2 (by omega) | exact BS3.out.drew.step hs2 (by omega))); have b0 := BS3.out.cell 0; have b1 := BS3.out.cell 1; have yb := BS3.out.lt; (try simp at b0 b1); clear hs2 hp2)
      | (go_at_call 20; have _t := tok3; refine (phase_any _ w1.heap.size s a len cap l _ (by first | exact SS.out.now | exact SS.out.now.drew) zb1 (by first | exact SN3.out | exact SN3.out.drew) HLEN.out RI.out).mono ?_; rintro e x3 ⟨k3, f3, u3, v3, rfl, hp3, hs3⟩; clear tok3 _t; have zp := hs3.size; (try simp at zp); have PE3 := Lib.hid hp3; have SS := Lib.hid (show Steps1 (w.heap.size + 1) W3 _ from (by first | exact sts SS.out hs3 | exact sts (sdr SS.out) hs3)); have SN3 := Lib.hid (show SerN w1.heap.size _ a l from (by first | exact SN3.out.step hs3 zb1 | exact SN3.out.drew.step hs3 zb1)); have BS3 := Lib.hid (show Blk _ w2.heap.size 25 #[.int .i64 s, .slice a len cap] from (by first | exact BS3.out.step hs3 (by omega) | exact BS3.out.drew.step hs3 (by omega))); have b0 := BS3.out.cell 0; have b1 := BS3.out.cell 1; have yb := BS3.out.lt; (try simp at b0 b1); clear hs3 hp3))
    all_goals (go_wp2_with fail)
    all_goals go_meet
    all_goals
      (case rel => exact ⟨_, rfl, by have := SS.out.size; omega, ⟨[(k1, f1, u1, v1), (k2, f2, u2, v2), (k3, f3, u3, v3)], rfl, by simp [allOK, ph, pE, PE1.out, PE2.out, PE3.out], phs_of_blk [(k1, f1, u1, v1), (k2, f2, u2, v2), (k3, f3, u3, v3)] (Blk.fresh rfl)⟩, sal SS.out _⟩)
  case rest =>
    obtain ⟨gm, rfl, hgm, ⟨pm, hpm3, hpmok, hpmP⟩, hss⟩ := hcut
    have SN4 := Lib.hid (SN3.out.step hss zb1).1; have BS4 := Lib.hid (BS3.out.step hss (by omega)); have BR4 := Lib.hid (BR3.out.step hss (by omega)); have L4 := Lib.hid (bos L3.out (by omega) hss); have PM4 := Lib.hid hpmP; have PM3 := Lib.hid hpm3
    have RS4 := Lib.hid (RS.out.below L4.out); have PS4 := Lib.hid (PS.out.below L4.out)
    have z4 := hss.size
    have b0 : wc.cell? ⟨w2.heap.size, 0, none⟩ = some (.int .i64 s) := BS4.out.cell 0; have b1 : wc.cell? ⟨w2.heap.size, 1, none⟩ = some (.slice a len cap) := BS4.out.cell 1; have yb := BS4.out.lt
    have r0 : wc.cell? ⟨w.heap.size, 0, none⟩ = some (.int .i64 rs) := BR4.out.cell 0; have r1 : wc.cell? ⟨w.heap.size, 1, none⟩ = some (.slice ra rlen rcap) := BR4.out.cell 1; have yr := BR4.out.lt
    clear hpm3 hpmok hpmP hss SN3 BS3 BR3 L3 T3 SS tok1 tok2 tok3 RS PS
    go_wp2_with fail
    have GA := Lib.hid (Blk.fresh (w := wc) (g := wc.heap.size) (t := 25) (cs := #[.int .i64 s, .slice a len cap, .int .i64 rs, .slice ra rlen rcap]) rfl)
    have SNa := Lib.hid (SN4.out.alloc (.cells #[.int .i64 s, .slice a len cap, .int .i64 rs, .slice ra rlen rcap] 25)); have RSa := Lib.hid (RS4.out.alloc (.cells #[.int .i64 s, .slice a len cap, .int .i64 rs, .slice ra rlen rcap] 25)); have PSa := Lib.hid (PS4.out.alloc (.cells #[.int .i64 s, .slice a len cap, .int .i64 rs, .slice ra rlen rcap] 25)); have PMa := Lib.hid (PM4.out.alloc (.cells #[.int .i64 s, .slice a len cap, .int .i64 rs, .slice ra rlen rcap] 25)); have La := Lib.hid (bal L4.out (.cells #[.int .i64 s, .slice a len cap, .int .i64 rs, .slice ra rlen rcap] 25))
    have hza : (wc.alloc (.cells #[.int .i64 s, .slice a len cap, .int .i64 rs, .slice ra rlen rcap] 25)).heap.size = wc.heap.size + 1 := by simp
    obtain ⟨WA, hWA⟩ : ∃ W, wc.alloc (.cells #[.int .i64 s, .slice a len cap, .int .i64 rs, .slice ra rlen rcap] 25) = W := ⟨_, rfl⟩
    rw [hWA] at GA SNa RSa PSa PMa La hza ⊢
    have za : wc.heap.size < WA.heap.size := by omega
    clear hWA hza b0 b1 yb r0 r1 yr BS4 BR4 SN4 RS4 PS4 PM4 L4
    go_loopw [45] (fun v wr => ChL WA 2 v wr) (fun v _ => 2 - (intOf v).toNat)
    case atStart => exact ⟨0, rfl, by omega, Below.refl _ _⟩
    case round =>
      obtain ⟨kk, rfl, hk2, hB⟩ := hrel
      have zr := hB.size
      by_cases hlt : kk < 2
      · have hlt' : (kk : Int) < 2 := by omega
        have hx : ∃ (xs : Int) (xa : Option Addr) (xlen xcap : Nat) (xl : List (Int × Int)), WA.cell? ⟨wc.heap.size, kk * 2, none⟩ = some (.int .i64 xs) ∧ WA.cell? ⟨wc.heap.size, kk * 2 + 1, none⟩ = some (.slice xa xlen xcap) ∧ Ser WA xa xl ∧ xl.length = xlen ∧ xlen ≤ 9223372036854775807 := by
          obtain rfl | rfl : kk = 0 ∨ kk = 1 := by omega
          · exact ⟨s, a, len, cap, l, GA.out.cell 0, GA.out.cell 1, SNa.out, HLEN.out, by omega⟩
          · exact ⟨rs, ra, rlen, rcap, rl, GA.out.cell 2, GA.out.cell 3, RSa.out, RL.out, hcap⟩
        obtain ⟨xs, xa, xlen, xcap, xl, q0, q1, hxs, hxl, xcp⟩ := hx
        have e0 := bc1 hB q0; have e1 := bc1 hB q1
        have XL := Lib.hid hxl; have XSr := Lib.hid (hxs.below hB); have LLr := Lib.hid hB; have PSr := Lib.hid (PSa.out.below hB); have PMr := Lib.hid (PMa.out.below hB)
        have yga : wc.heap.size < wr.heap.size := by omega
        clear q0 q1 hxs hxl hB
        go_upto_region 9 with fail
        have BXx := Lib.hid (Blk.fresh (w := wr) (g := wr.heap.size) (t := 25) (cs := #[.int .i64 xs, .slice xa xlen xcap]) rfl)
        have XSx := Lib.hid (XSr.out.alloc (.cells #[.int .i64 xs, .slice xa xlen xcap] 25)); have PLx := Lib.hid (PSr.out.alloc (.cells #[.int .i64 xs, .slice xa xlen xcap] 25)); have PMx := Lib.hid (PMr.out.alloc (.cells #[.int .i64 xs, .slice xa xlen xcap] 25)); have LLx := Lib.hid (bal LLr.out (.cells #[.int .i64 xs, .slice xa xlen xcap] 25))
        obtain ⟨gx, hgx⟩ : ∃ g, wr.heap.size = g := ⟨_, rfl⟩
        rw [hgx] at BXx ⊢
        obtain ⟨WX, hWX⟩ : ∃ W, wr.alloc (.cells #[.int .i64 xs, .slice xa xlen xcap] 25) = W := ⟨_, rfl⟩
        rw [hWX] at BXx XSx PLx PMx LLx ⊢
        have yx := BXx.out.lt
        clear hWX hgx e0 e1 XSr LLr PSr PMr
        have tok1 : True := trivial
        have tok2 : True := trivial
        have hcm3 : True := trivial
        go_cut [53, 54, 55] (fun v53 v54 v55 wx => OpR WX v53 v54 v55 wx)
        case first =>
          cases pa with
          | none =>
            obtain ⟨rfl, rfl⟩ := NO.out rfl
            go_wp2_with first | (at_builtin; have _t := tok1; refine wpList_append_own _ rfl _ _ 43 rfl WX.heap.size 27 i0 (.agg #[.int .i64 0, .int .i64 0, .int .i64 0, .int .i64 0]) 4 32 Try.underlying43 HI.out HZ.out.1 HZ.out.2.1 HZ.out.2.2 rfl (by decide) _ _ _ rfl (empty_row4 (Blk.fresh rfl) (by omega)) ⟨gm, 0, none⟩ 3 3 (encP pm) rfl (by rw [encP_length, PM3.out]) (phs_news (PMx.out.alloc _)) (oneCell_encP pm) (by unfold maxLen; omega) (by omega) (by simp) ?_; clear tok1 _t; intro v1 w8 hown1 hgrow1 _; obtain ⟨g1, cap1, rfl⟩ := ownsRow_succ hown1; have hq := below_grown (k := WX.heap.size) (n := WX.heap.size) hgrow1 (by simp) (by omega); have hq8 := Lib.hid ((bal (Below.refl WX.heap.size WX) (.cells #[] 27)).trans hq); have R1 := Lib.hid hown1; have z8 := hq8.out.size; clear hown1 hgrow1 hq) | (at_builtin; refine wpList_append_own_none rfl _ _ 43 rfl WX.heap.size 27 i0 4 Try.underlying43 HI.out _ _ _ rfl R1.out rfl ?_)
            go_meet
            case rel => exact ⟨pm, 3, g1, cap1, rfl, rfl, rfl, PM3.out, by omega, phs_of_row R1.out, hq8.out⟩
          | some ad =>
            go_wp2_with first | (at_builtin; have _t := tok1; refine wpList_append_own _ rfl _ _ 43 rfl WX.heap.size 27 i0 (.agg #[.int .i64 0, .int .i64 0, .int .i64 0, .int .i64 0]) 4 32 Try.underlying43 HI.out HZ.out.1 HZ.out.2.1 HZ.out.2.2 rfl (by decide) _ _ _ rfl (empty_row4 (Blk.fresh rfl) (by omega)) ⟨gm, 0, none⟩ 3 3 (encP pm) rfl (by rw [encP_length, PM3.out]) (phs_news (PMx.out.alloc _)) (oneCell_encP pm) (by unfold maxLen; omega) (by omega) (by simp) ?_; clear tok1 _t; intro v1 w8 hown1 hgrow1 _; obtain ⟨g1, cap1, rfl⟩ := ownsRow_succ hown1; have hq := below_grown (k := WX.heap.size) (n := WX.heap.size) hgrow1 (by simp) (by omega); have hq8 := Lib.hid ((bal (Below.refl WX.heap.size WX) (.cells #[] 27)).trans hq); have R1 := Lib.hid hown1; have z8 := hq8.out.size; clear hown1 hgrow1 hq) | (at_builtin; have _t := tok2; refine wpList_append_own _ rfl _ _ 43 rfl WX.heap.size 27 i0 (.agg #[.int .i64 0, .int .i64 0, .int .i64 0, .int .i64 0]) 4 32 Try.underlying43 HI.out HZ.out.1 HZ.out.2.1 HZ.out.2.2 rfl (by decide) _ _ _ rfl R1.out ad plen pcap (encP pl) rfl (by rw [encP_length, HPL.out]) (phs_news (PLx.out.below hq8.out)) (oneCell_encP pl) (by unfold maxLen; omega) (by omega) (by omega) ?_; clear tok2 _t; intro v2 w9 hown2 hgrow2 _; obtain ⟨g2, cap2, rfl⟩ := ownsRow_plus hown2; have hq := row_app0 R1.out (by omega) hgrow2; have LB := Lib.hid (hq8.out.trans hq); have R2 := Lib.hid hown2; have z9 := hq.size; clear hown2 hgrow2 hq)
            go_meet
            case rel => exact ⟨pm ++ pl, 3 + plen, g2, cap2, rfl, rfl, rfl, by rw [List.length_append, PM3.out, HPL.out], by omega, phs_of_row (by rw [encP_append]; exact R2.out), LB.out⟩
        case rest =>
          obtain ⟨P, np, g2, cap2, rfl, rfl, rfl, hnp, hnp2, hPP, hB9⟩ := hcut
          have NP := Lib.hid hnp; have PP := Lib.hid hPP
          have BXb := Lib.hid (BXx.out.below hB9); have XSb := Lib.hid (XSx.out.below hB9); have LBb := Lib.hid (btr LLx.out hB9); have PLb := Lib.hid (PLx.out.below hB9); have PMb := Lib.hid (PMx.out.below hB9)
          have z9 := hB9.size
          obtain ⟨WB, hWB⟩ : ∃ W, wc = W := ⟨_, rfl⟩
          rw [hWB] at PP BXb XSb LBb PLb PMb z9 ⊢
          clear hWB hnp hPP hB9 BXx XSx PLx PMx LLx tok1 tok2 hcm3
          go_wp2_with fail
          go_loopw [55] (fun jv wr => ChL WB np jv wr) (fun jv _ => np - (intOf jv).toNat)
          case atStart => exact ⟨0, rfl, by omega, Below.refl _ _⟩
          case round =>
            obtain ⟨jj, rfl, hjn, hB2⟩ := hrel
            have zq := hB2.size
            by_cases hlj : jj < np
            · have hlj' : (jj : Int) < (np : Int) := by omega
              obtain ⟨kb, ko, hke, c0, c1, c2, c3⟩ := (PP.out.below hB2) jj (by rw [NP.out]; exact hlj)
              cases hke
              obtain ⟨⟨k0, f, u, v⟩, hq⟩ : ∃ q, ph P jj = q := ⟨_, rfl⟩
              rw [hq] at c0 c1 c2 c3
              dsimp only at c0 c1 c2 c3
              simp only [Nat.zero_add] at c0 c1 c2 c3
              have yg := World.block_lt_of_cell? _ _ c0
              have BX := Lib.hid (BXb.out.below hB2); have XS := Lib.hid (XSb.out.below hB2); have LQ := Lib.hid hB2
              clear hq hB2
              go_upto_region 12 with fail
              have BQ := Lib.hid (Blk.fresh (w := wr) (g := wr.heap.size) (t := 27) (cs := #[.int .i64 k0, .int .i64 f, .int .i64 u, .int .i64 v]) rfl)
              have BXx := Lib.hid (BX.out.alloc (.cells #[.int .i64 k0, .int .i64 f, .int .i64 u, .int .i64 v] 27)); have XSx := Lib.hid (XS.out.alloc (.cells #[.int .i64 k0, .int .i64 f, .int .i64 u, .int .i64 v] 27)); have LQx := Lib.hid (bal LQ.out (.cells #[.int .i64 k0, .int .i64 f, .int .i64 u, .int .i64 v] 27))
              obtain ⟨gq, hgq⟩ : ∃ g, wr.heap.size = g := ⟨_, rfl⟩
              rw [hgq] at BQ ⊢
              obtain ⟨WQ, hWQ⟩ : ∃ W, wr.alloc (.cells #[.int .i64 k0, .int .i64 f, .int .i64 u, .int .i64 v] 27) = W := ⟨_, rfl⟩
              rw [hWQ] at BQ BXx XSx LQx ⊢
              clear BX XS LQ c0 c1 c2 c3 yg hgq hWQ
              have BX := BXx; have XS := XSx; have BQx := BQ
              have LX := Lib.hid (Below.refl WQ.heap.size WQ)
              have bx0 := BX.out.cell 0; have bx1 := BX.out.cell 1; have ybx := BX.out.lt; have bq0 := BQ.out.cell 0; have bq1 := BQ.out.cell 1; have bq2 := BQ.out.cell 2; have bq3 := BQ.out.cell 3; have ybq := BQ.out.lt; (try simp at bx0 bx1 bq0 bq1 bq2 bq3)
              go_cut [14, 15] (fun v14 v15 wx => OpC WQ (openAny xs xl k0 f u v) v14 v15 wx)
              case first =>
                go_region_held3 (fun w' => w'.cell? ⟨gx, 0, none⟩ = some (.int .i64 xs) ∧ w'.cell? ⟨gx, 1, none⟩ = some (.slice xa xlen xcap) ∧ w'.cell? ⟨gq, 0, none⟩ = some (.int .i64 k0) ∧ w'.cell? ⟨gq, 1, none⟩ = some (.int .i64 f) ∧ w'.cell? ⟨gq, 2, none⟩ = some (.int .i64 u) ∧ w'.cell? ⟨gq, 3, none⟩ = some (.int .i64 v)) (simp [go_sem, *])
                  (first
                    | (go_at_call 21; refine (pOpen_any xs xa xlen xcap xl _ (by first | exact XS.out | exact XS.out.drew) XL.out xcp k0 f u v).mono ?_; rintro e x1 ⟨v14, rfl, ho1, h1⟩; have O1 := Lib.hid (ownsRow_base (b' := 0) ho1 (by omega)); (try (have O2 := Lib.hid (show World.ownsRow x1 0 3 1 v15 _ _ from (by first | exact own_below O2.out h1 | exact own_below O2.out.drew h1)))); clear ho1; have zz := h1.size; (try simp at zz); have BX := Lib.hid (show Blk _ (gx) 25 #[.int .i64 xs, .slice xa xlen xcap] from (by first | exact BX.out.below h1 | exact BX.out.drew.below h1)); have BQ := Lib.hid (show Blk _ (gq) 27 #[.int .i64 k0, .int .i64 f, .int .i64 u, .int .i64 v] from (by first | exact BQ.out.below h1 | exact BQ.out.drew.below h1)); have LX := Lib.hid (show Below WQ.heap.size WQ _ from (by first | exact btr LX.out h1 | exact btr (bdr LX.out) h1)); have XS := Lib.hid (show Ser _ xa xl from (by first | exact XS.out.below h1 | exact XS.out.drew.below h1)); have bx0 := BX.out.cell 0; have bx1 := BX.out.cell 1; have ybx := BX.out.lt; have bq0 := BQ.out.cell 0; have bq1 := BQ.out.cell 1; have bq2 := BQ.out.cell 2; have bq3 := BQ.out.cell 3; have ybq := BQ.out.lt; (try simp at bx0 bx1 bq0 bq1 bq2 bq3); clear h1)
                    | (go_at_call 22; refine (rOpen_any xs xa xlen xcap xl _ (by first | exact XS.out | exact XS.out.drew) XL.out xcp k0 f u v).mono ?_; rintro e x2 ⟨v15, rfl, ho2, h2⟩; have O2 := Lib.hid (ownsRow_base (b' := 0) ho2 (by omega)); (try (have O1 := Lib.hid (show World.ownsRow x2 0 3 1 v14 _ _ from (by first | exact own_below O1.out h2 | exact own_below O1.out.drew h2)))); clear ho2; have zz := h2.size; (try simp at zz); have BX := Lib.hid (show Blk _ (gx) 25 #[.int .i64 xs, .slice xa xlen xcap] from (by first | exact BX.out.below h2 | exact BX.out.drew.below h2)); have BQ := Lib.hid (show Blk _ (gq) 27 #[.int .i64 k0, .int .i64 f, .int .i64 u, .int .i64 v] from (by first | exact BQ.out.below h2 | exact BQ.out.drew.below h2)); have LX := Lib.hid (show Below WQ.heap.size WQ _ from (by first | exact btr LX.out h2 | exact btr (bdr LX.out) h2)); have XS := Lib.hid (show Ser _ xa xl from (by first | exact XS.out.below h2 | exact XS.out.drew.below h2)); have bx0 := BX.out.cell 0; have bx1 := BX.out.cell 1; have ybx := BX.out.lt; have bq0 := BQ.out.cell 0; have bq1 := BQ.out.cell 1; have bq2 := BQ.out.cell 2; have bq3 := BQ.out.cell 3; have ybq := BQ.out.lt; (try simp at bx0 bx1 bq0 bq1 bq2 bq3); clear h2))
                all_goals (go_wp2_with fail)
                all_goals go_meet
                all_goals
                  (case rel => exact ⟨O1.out, O2.out, LX.out⟩)
              case rest =>
                obtain ⟨ho1, ho2, hB⟩ := hcut
                obtain ⟨a1, c1p, rfl, hr1, hon9⟩ := row_slice ho1
                obtain ⟨a2, c2p, rfl, hr2, _⟩ := row_slice ho2
                obtain ⟨on, hon⟩ : ∃ n, (openAny xs xl k0 f u v).length = n := ⟨_, rfl⟩
                have HON := Lib.hid hon
                rw [hon] at hr1 hr2 hon9 ⊢
                have zc := hB.size
                have BX := Lib.hid (BXx.out.below hB); have XS := Lib.hid (XSx.out.below hB); have BQ := Lib.hid (BQx.out.below hB); have LR := Lib.hid (btr LQx.out hB)
                have O1 := Lib.hid hr1; have O2 := Lib.hid hr2
                clear ho1 ho2 hon hr1 hr2 hB bx0 bx1 bq0 bq1 bq2 bq3 ybx ybq LX
                obtain ⟨WR, hWR⟩ : ∃ W, wc = W := ⟨_, rfl⟩
                rw [hWR] at BX XS BQ LR O1 O2 zc ⊢
                clear hWR
                have BXr := BX; have XSr := XS; have BQr := BQ
                have LX := Lib.hid (Below.refl WR.heap.size WR)
                have bx0 := BX.out.cell 0; have bx1 := BX.out.cell 1; have ybx := BX.out.lt; have bq0 := BQ.out.cell 0; have bq1 := BQ.out.cell 1; have bq2 := BQ.out.cell 2; have bq3 := BQ.out.cell 3; have ybq := BQ.out.lt; (try simp at bx0 bx1 bq0 bq1 bq2 bq3)
                have DE := Lib.hid (decAny_eq xs xl k0 f u v)
                go_upto_region 13 with fail
                go_cut [78] (fun v78 wx => OpD WR v78 wx)
                case first =>
                  go_region_held3 (fun w' => w'.cell? ⟨gx, 0, none⟩ = some (.int .i64 xs) ∧ w'.cell? ⟨gx, 1, none⟩ = some (.slice xa xlen xcap) ∧ w'.cell? ⟨gq, 0, none⟩ = some (.int .i64 k0) ∧ w'.cell? ⟨gq, 1, none⟩ = some (.int .i64 f) ∧ w'.cell? ⟨gq, 2, none⟩ = some (.int .i64 u) ∧ w'.cell? ⟨gq, 3, none⟩ = some (.int .i64 v)) (simp [go_sem, *])
                    (first
                      | (go_at_call 23; refine (pDecide_any xs xa xlen xcap xl _ (by first | exact XS.out | exact XS.out.drew) XL.out xcp k0 f u v).mono ?_; rw [DE.out]; rintro e x1 ⟨rfl, h1⟩; have zz := h1.size; (try simp at zz); have BX := Lib.hid (show Blk _ (gx) 25 #[.int .i64 xs, .slice xa xlen xcap] from (by first | exact BX.out.below h1 | exact BX.out.drew.below h1)); have BQ := Lib.hid (show Blk _ (gq) 27 #[.int .i64 k0, .int .i64 f, .int .i64 u, .int .i64 v] from (by first | exact BQ.out.below h1 | exact BQ.out.drew.below h1)); have LX := Lib.hid (show Below WR.heap.size WR _ from (by first | exact btr LX.out h1 | exact btr (bdr LX.out) h1)); have XS := Lib.hid (show Ser _ xa xl from (by first | exact XS.out.below h1 | exact XS.out.drew.below h1)); have bx0 := BX.out.cell 0; have bx1 := BX.out.cell 1; have ybx := BX.out.lt; have bq0 := BQ.out.cell 0; have bq1 := BQ.out.cell 1; have bq2 := BQ.out.cell 2; have bq3 := BQ.out.cell 3; have ybq := BQ.out.lt; (try simp at bx0 bx1 bq0 bq1 bq2 bq3); clear h1)
                      | (go_at_call 24; refine (rDecide_any xs xa xlen xcap xl _ (by first | exact XS.out | exact XS.out.drew) XL.out xcp k0 f u v).mono ?_; rintro e x2 ⟨rfl, h2⟩; have zz := h2.size; (try simp at zz); have BX := Lib.hid (show Blk _ (gx) 25 #[.int .i64 xs, .slice xa xlen xcap] from (by first | exact BX.out.below h2 | exact BX.out.drew.below h2)); have BQ := Lib.hid (show Blk _ (gq) 27 #[.int .i64 k0, .int .i64 f, .int .i64 u, .int .i64 v] from (by first | exact BQ.out.below h2 | exact BQ.out.drew.below h2)); have LX := Lib.hid (show Below WR.heap.size WR _ from (by first | exact btr LX.out h2 | exact btr (bdr LX.out) h2)); have XS := Lib.hid (show Ser _ xa xl from (by first | exact XS.out.below h2 | exact XS.out.drew.below h2)); have bx0 := BX.out.cell 0; have bx1 := BX.out.cell 1; have ybx := BX.out.lt; have bq0 := BQ.out.cell 0; have bq1 := BQ.out.cell 1; have bq2 := BQ.out.cell 2; have bq3 := BQ.out.cell 3; have ybq := BQ.out.lt; (try simp at bx0 bx1 bq0 bq1 bq2 bq3); clear h2))
                  all_goals (go_wp2_with fail)
                  all_goals go_meet
                  all_goals
                    (case rel => exact ⟨by simp, LX.out⟩)
                case rest =>
                  obtain ⟨rfl, hB⟩ := hcut
                  have zc2 := hB.size
                  have O1 := Lib.hid (O1.out.below hB); have O2 := Lib.hid (O2.out.below hB); have LS := Lib.hid (btr LR.out hB)
                  clear hB bx0 bx1 bq0 bq1 bq2 bq3 ybx ybq LX BX XS BQ
                  obtain ⟨WS, hWS⟩ : ∃ W, wc = W := ⟨_, rfl⟩
                  rw [hWS] at O1 O2 LS zc2 ⊢
                  clear hWS
                  go_wp2_with fail
                  go_loopw [81] (fun iv wr => ChL WS on iv wr) (fun iv _ => on - (intOf iv).toNat)
                  case atStart => exact ⟨0, rfl, by omega, Below.refl _ _⟩
                  case round =>
                    obtain ⟨ii, rfl, hin, hB3⟩ := hrel
                    have zi := hB3.size
                    by_cases hli : ii < on
                    · have hli' : (ii : Int) < (on : Int) := by omega
                      obtain ⟨e1g, rfl, q1⟩ := O1.out ii hli
                      obtain ⟨e2g, rfl, q2⟩ := O2.out ii hli
                      have e1 := bc1 hB3 q1; have e2 := bc1 hB3 q2
                      have y1 := World.block_lt_of_cell? _ _ e1; have y2 := World.block_lt_of_cell? _ _ e2
                      generalize (openAny xs xl k0 f u v).getD ii 0 = zz at e1 e2
                      have i0' : (0 : Int) ≤ (ii : Int) := by omega
                      have HB3 := Lib.hid hB3
                      clear q1 q2 hB3
                      go_wp2
                      go_quiet (fail)
                      go_wp2
                      go_roundw
                      case rel => exact ⟨ii + 1, by go_num, by omega, bdn HB3.out _⟩
                      case measure => simp [intOf]; omega
                    · have hgi : ¬ (ii : Int) < (on : Int) := by omega
                      go_wp2
                      go_roundw
                      case rel => exact ⟨jj + 1, by go_num, by omega, btr LS.out hB3⟩
                      case measure => simp [intOf]; omega
            · have hgj : ¬ (jj : Int) < (np : Int) := by omega
              have BX := Lib.hid (BXb.out.below hB2); have XS := Lib.hid (XSb.out.below hB2); have LX := Lib.hid (btr LBb.out hB2); have PLq := Lib.hid (PLb.out.below hB2); have PMq := Lib.hid (PMb.out.below hB2)
              clear hB2
              have bx0 := BX.out.cell 0; have bx1 := BX.out.cell 1; have ybx := BX.out.lt; (try simp at bx0 bx1)
              have tok1 : True := trivial
              have tok2 : True := trivial
              have tok3 : True := trivial
              have tok4 : True := trivial
              have ME1 := Lib.hid (mtAny_eq xs xl pl); have ME2 := Lib.hid (mtAny_eq xs xl pm)
              go_upto_region 22 with fail
              go_cut [110] (fun v110 wx => OpE WA v110 wx)
              case first =>
                go_region_held3 (fun w' => w'.cell? ⟨gx, 0, none⟩ = some (.int .i64 xs) ∧ w'.cell? ⟨gx, 1, none⟩ = some (.slice xa xlen xcap)) (simp [go_sem, *])
                  (first
                  | (go_at_call 25; have _t := tok1; refine (pMatch_any xs xa xlen xcap xl _ (by first | exact XS.out | exact XS.out.drew) XL.out xcp pa plen pcap pl (by first | exact PLq.out | exact PLq.out.drew) HPL.out (by omega)).mono ?_; rw [ME1.out]; rintro e x1 ⟨rfl, h1⟩; clear tok1 _t; have zz := h1.size; (try simp at zz); have BX := Lib.hid (show Blk _ (gx) 25 #[.int .i64 xs, .slice xa xlen xcap] from (by first | exact BX.out.below h1 | exact BX.out.drew.below h1)); have LX := Lib.hid (show Below WA.heap.size WA _ from (by first | exact btr LX.out h1 | exact btr (bdr LX.out) h1)); have XS := Lib.hid (show Ser _ xa xl from (by first | exact XS.out.below h1 | exact XS.out.drew.below h1)); have PLq := Lib.hid (show Phs _ pa pl from (by first | exact PLq.out.below h1 | exact PLq.out.drew.below h1)); have PMq := Lib.hid (show Phs _ (some ⟨gm, 0, none⟩) pm from (by first | exact PMq.out.below h1 | exact PMq.out.drew.below h1)); have bx0 := BX.out.cell 0; have bx1 := BX.out.cell 1; have ybx := BX.out.lt; (try simp at bx0 bx1); clear h1)
                  | (go_at_call 26; have _t := tok2; refine (rMatch_any xs xa xlen xcap xl _ (by first | exact XS.out | exact XS.out.drew) XL.out xcp pa plen pcap pl (by first | exact PLq.out | exact PLq.out.drew) HPL.out (by omega)).mono ?_; rintro e x2 ⟨rfl, h2⟩; clear tok2 _t; have zz := h2.size; (try simp at zz); have BX := Lib.hid (show Blk _ (gx) 25 #[.int .i64 xs, .slice xa xlen xcap] from (by first | exact BX.out.below h2 | exact BX.out.drew.below h2)); have LX := Lib.hid (show Below WA.heap.size WA _ from (by first | exact btr LX.out h2 | exact btr (bdr LX.out) h2)); have XS := Lib.hid (show Ser _ xa xl from (by first | exact XS.out.below h2 | exact XS.out.drew.below h2)); have PLq := Lib.hid (show Phs _ pa pl from (by first | exact PLq.out.below h2 | exact PLq.out.drew.below h2)); have PMq := Lib.hid (show Phs _ (some ⟨gm, 0, none⟩) pm from (by first | exact PMq.out.below h2 | exact PMq.out.drew.below h2)); have bx0 := BX.out.cell 0; have bx1 := BX.out.cell 1; have ybx := BX.out.lt; (try simp at bx0 bx1); clear h2)
                  | (go_at_call 25; have _t := tok3; refine (pMatch_any xs xa xlen xcap xl _ (by first | exact XS.out | exact XS.out.drew) XL.out xcp (some ⟨gm, 0, none⟩) 3 3 pm (by first | exact PMq.out | exact PMq.out.drew) PM3.out (by omega)).mono ?_; rw [ME2.out]; rintro e x3 ⟨rfl, h3⟩; clear tok3 _t; have zz := h3.size; (try simp at zz); have BX := Lib.hid (show Blk _ (gx) 25 #[.int .i64 xs, .slice xa xlen xcap] from (by first | exact BX.out.below h3 | exact BX.out.drew.below h3)); have LX := Lib.hid (show Below WA.heap.size WA _ from (by first | exact btr LX.out h3 | exact btr (bdr LX.out) h3)); have XS := Lib.hid (show Ser _ xa xl from (by first | exact XS.out.below h3 | exact XS.out.drew.below h3)); have PLq := Lib.hid (show Phs _ pa pl from (by first | exact PLq.out.below h3 | exact PLq.out.drew.below h3)); have PMq := Lib.hid (show Phs _ (some ⟨gm, 0, none⟩) pm from (by first | exact PMq.out.below h3 | exact PMq.out.drew.below h3)); have bx0 := BX.out.cell 0; have bx1 := BX.out.cell 1; have ybx := BX.out.lt; (try simp at bx0 bx1); clear h3)
                  | (go_at_call 26; have _t := tok4; refine (rMatch_any xs xa xlen xcap xl _ (by first | exact XS.out | exact XS.out.drew) XL.out xcp (some ⟨gm, 0, none⟩) 3 3 pm (by first | exact PMq.out | exact PMq.out.drew) PM3.out (by omega)).mono ?_; rintro e x4 ⟨rfl, h4⟩; clear tok4 _t; have zz := h4.size; (try simp at zz); have BX := Lib.hid (show Blk _ (gx) 25 #[.int .i64 xs, .slice xa xlen xcap] from (by first | exact BX.out.below h4 | exact BX.out.drew.below h4)); have LX := Lib.hid (show Below WA.heap.size WA _ from (by first | exact btr LX.out h4 | exact btr (bdr LX.out) h4)); have XS := Lib.hid (show Ser _ xa xl from (by first | exact XS.out.below h4 | exact XS.out.drew.below h4)); have PLq := Lib.hid (show Phs _ pa pl from (by first | exact PLq.out.below h4 | exact PLq.out.drew.below h4)); have PMq := Lib.hid (show Phs _ (some ⟨gm, 0, none⟩) pm from (by first | exact PMq.out.below h4 | exact PMq.out.drew.below h4)); have bx0 := BX.out.cell 0; have bx1 := BX.out.cell 1; have ybx := BX.out.lt; (try simp at bx0 bx1); clear h4)
                  )
                all_goals (go_wp2_with fail)
                all_goals go_meet
                all_goals
                  (case rel => exact ⟨by simp, LX.out⟩)
              case rest =>
                obtain ⟨rfl, hB⟩ := hcut
                go_wp2
                go_roundw
                case rel => exact ⟨kk + 1, by go_num, by omega, hB⟩
                case measure => simp [intOf]; omega
      · have hge : ¬ (kk : Int) < 2 := by omega
        have LL := Lib.hid hB
        clear hB
        go_wp2_with fail
        refine (awake_any _).mono ?_
        rintro e w9 ⟨rfl, hb9⟩
        go_wp2
        go_ret
        exact ⟨rfl, La.out.trans ((btr LL.out hb9).mono La.out.size)⟩
end Go.Proofs.Ytlfcdjgmegfjoaa
