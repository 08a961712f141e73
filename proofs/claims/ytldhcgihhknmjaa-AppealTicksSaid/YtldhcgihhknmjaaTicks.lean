/- The walk of AppealTicks: it answers true. -/
import Derived.Test.YtldhcgihhknmjaaDue
namespace Go.Proofs.Ytldhcgihhknmjaa
open Go.RowKit

def tkS (L A K S T m : Int) : Int := if S = 1 ∧ K + L < m then 5 else if S = 2 ∧ T + A < m then 4 else S
def tkT (L A K S T m : Int) : Int := if S = 1 ∧ K + L < m then K + L + 1 else if S = 2 ∧ T + A < m then T + A else T
section
variable {L A K S T m : Int}
theorem tick_tk (h : Good L A K S T) (h1 : T ≤ m) (h2 : m ≤ 36864) : tickR L A K S T m = ⟨K, tkS L A K S T m, tkT L A K S T m, 0⟩ := by
  unfold tickR tkS tkT
  rw [if_pos h, if_neg (by omega)]
  split
  · rfl
  · split <;> rfl
theorem tk_start (h : Good L A K S T) (hm : m < T) : tkS L A K S T m = S ∧ tkT L A K S T m = T := by
  have hl := good_lim h
  have hc := fine_cases h
  unfold tkS tkT
  rw [if_neg (by omega), if_neg (by omega), if_neg (by omega), if_neg (by omega)]
  exact ⟨rfl, rfl⟩
theorem tk_le (h : Good L A K S T) (h1 : T ≤ m + 1) : tkT L A K S T m ≤ m + 1 := by
  have hl := good_lim h
  unfold tkT
  split
  · omega
  · split <;> omega
theorem tk_good (h : Good L A K S T) (hK : K ≤ 39) (h1 : T ≤ m + 1) (h2 : m ≤ 30000) : Good L A K (tkS L A K S T m) (tkT L A K S T m) := by
  by_cases hm : m < T
  · rw [(tk_start h hm).1, (tk_start h hm).2]; exact h
  · have e := tick_tk h (m := m) (by omega) (by omega)
    have := (fine_tick (d := m) ⟨h, hK⟩ (by rw [e])).1
    rw [e] at this
    exact this
theorem tk_step (h : Good L A K S T) (hK : K ≤ 39) (h1 : T ≤ m) (h2 : m ≤ 30000) :
    tickR L A K (tkS L A K S T (m - 1)) (tkT L A K S T (m - 1)) m = ⟨K, tkS L A K S T m, tkT L A K S T m, 0⟩ := by
  have hg := tk_good h hK (m := m - 1) (by omega) (by omega)
  have hl := good_lim h
  by_cases c1 : S = 1 ∧ K + L < m - 1
  · have a1 : tkS L A K S T (m - 1) = 5 := by unfold tkS; rw [if_pos c1]
    have a2 : tkT L A K S T (m - 1) = K + L + 1 := by unfold tkT; rw [if_pos c1]
    have a3 : tkS L A K S T m = 5 := by unfold tkS; rw [if_pos ⟨c1.1, by omega⟩]
    have a4 : tkT L A K S T m = K + L + 1 := by unfold tkT; rw [if_pos ⟨c1.1, by omega⟩]
    rw [a1, a2] at hg ⊢
    rw [a3, a4]
    exact tick_same hg (by omega) (by omega) (by omega) (by omega)
  · by_cases c2 : S = 2 ∧ T + A < m - 1
    · have a1 : tkS L A K S T (m - 1) = 4 := by unfold tkS; rw [if_neg c1, if_pos c2]
      have a2 : tkT L A K S T (m - 1) = T + A := by unfold tkT; rw [if_neg c1, if_pos c2]
      have a3 : tkS L A K S T m = 4 := by unfold tkS; rw [if_neg (by omega), if_pos ⟨c2.1, by omega⟩]
      have a4 : tkT L A K S T m = T + A := by unfold tkT; rw [if_neg (by omega), if_pos ⟨c2.1, by omega⟩]
      rw [a1, a2] at hg ⊢
      rw [a3, a4]
      exact tick_same hg (by omega) (by omega) (by omega) (by omega)
    · have a1 : tkS L A K S T (m - 1) = S := by unfold tkS; rw [if_neg c1, if_neg c2]
      have a2 : tkT L A K S T (m - 1) = T := by unfold tkT; rw [if_neg c1, if_neg c2]
      rw [a1, a2]
      exact tick_tk h h1 (by omega)
end

/-- The loop's blocks: the terms, the appeal that was ticked once, and the one that is ticked day by day. -/
structure TkRel (w : World) (bt bo bx : Nat) (L A K S T u m : Int) (wr : World) : Prop where
  below : Below w.heap.size w wr
  lt : w.heap.size ≤ bx
  no : bo ≠ bx
  nt : bt ≠ bx
  terms : Blk wr bt 26 #[.int .i64 L, .int .i64 A]
  once : Blk wr bo 29 #[.int .i64 K, .int .i64 (tkS L A K S T u), .int .i64 (tkT L A K S T u)]
  x : Blk wr bx 29 #[.int .i64 K, .int .i64 (tkS L A K S T m), .int .i64 (tkT L A K S T m)]
section
variable {w wx wy : World} {bt bo bx : Nat} {L A K S T u m : Int}
theorem TkRel.step (h : TkRel w bt bo bx L A K S T u m wx) (hb : Below wx.heap.size wx wy) : TkRel w bt bo bx L A K S T u m wy :=
  ⟨btr h.below hb, h.lt, h.no, h.nt, h.terms.below hb, h.once.below hb, h.x.below hb⟩
theorem TkRel.alloc (h : TkRel w bt bo bx L A K S T u m wx) (o : Obj) : TkRel w bt bo bx L A K S T u m (wx.alloc o) := h.step ((Below.refl _ _).alloc (Nat.le_refl _) o)
theorem TkRel.put {m' : Int} (h : TkRel w bt bo bx L A K S T u m wx) : TkRel w bt bo bx L A K S T u m' (((wx.setCell ⟨bx, 0, none⟩ (.int .i64 K)).setCell ⟨bx, 1, none⟩ (.int .i64 (tkS L A K S T m'))).setCell ⟨bx, 2, none⟩ (.int .i64 (tkT L A K S T m'))) :=
  ⟨bst (bst (bst h.below _ _ _ h.lt) _ _ _ h.lt) _ _ _ h.lt, h.lt, h.no, h.nt, ((h.terms.far _ _ _ h.nt).far _ _ _ h.nt).far _ _ _ h.nt, ((h.once.far _ _ _ h.no).far _ _ _ h.no).far _ _ _ h.no, h.x.put3 rfl⟩
end
def TkLoop (w : World) (bt bo bx : Nat) (L A K S T u : Int) (dv : Value) (wr : World) : Prop := ∃ d : Int, dv = .int .i64 d ∧ T ≤ d ∧ d ≤ u + 1 ∧ TkRel w bt bo bx L A K S T u (d - 1) wr
set_option maxHeartbeats 800000 in
theorem ticks_walk (a0 : Option Addr) (len0 cap0 : Nat) (z0 : List Int) (days : Int) (hd1 : 0 ≤ days) (hd2 : days ≤ 255) (w : World) (hr : IsRow .i64 w a0 len0 cap0 z0) :
    Calls Try.prog 3 #[.slice a0 len0 cap0, .int .u8 days] w fun e w' => e = .returned (.bool true) ∧ Below w.heap.size w w' := by
  have R := Lib.hid hr
  clear hr
  go_enter Try.func3, Try.ntmps3
  go_wp2_with fail
  refine (new_any _ _ _ _ _ R.out).mono ?_
  rintro e w1 ⟨rfl, hbw1, hT1⟩
  have Lw1 := Lib.hid hbw1
  have Tw1 := Lib.hid hT1
  clear hbw1 hT1
  go_wp2_with fail
  refine (terms_any _ _ Tw1.out).mono ?_; rintro e w2 ⟨L, A, l1, l2, l3, l4, rfl, hsw2⟩; have Lw2 : Below w.heap.size w w2 := bos Lw1.out (Nat.le_refl _) hsw2; have Tw2 := Lib.hid (Steps1.now hsw2); have bw2 := (Steps1.now hsw2).lt; replace Lw2 := Lib.hid Lw2; clear hsw2
  go_wp2_with fail
  refine (appeal_any _ _ _ _ (Tw2.out.alloc _) l1 l2 l3 l4).mono ?_; rintro e w3 ⟨K, S, T, hf, rfl, hsw3⟩; have Btw3 : Blk w3 (w2.heap.size) 26 #[.int .i64 L, .int .i64 A] := (Blk.fresh (by simp)).step hsw3 (by omega); have Lw3 : Below w.heap.size w w3 := bos (bal Lw2.out _) (Nat.le_refl _) hsw3; have Tw3 := Lib.hid (Steps1.now hsw3); have bw3 := (Steps1.now hsw3).lt; have ytw3 := Btw3.lt; have ctw30 : w3.cell? ⟨w2.heap.size, 0, none⟩ = some (.int .i64 L) := Btw3.cell 0; have ctw31 : w3.cell? ⟨w2.heap.size, 1, none⟩ = some (.int .i64 A) := Btw3.cell 1; replace Btw3 := Lib.hid Btw3; replace Lw3 := Lib.hid Lw3; clear hsw3
  have hG := hf.1
  have hlim := good_lim hG
  have hK := hf.2
  have hTb := hf.T l2 l4
  clear hf
  have G := Lib.hid hG
  clear hG
  have hm1 : 0 ≤ days % 40 := Int.emod_nonneg _ (by omega)
  have hm2 : days % 40 < 40 := Int.emod_lt_of_pos _ (by omega)
  go_wp2_with fail
  obtain ⟨u, hu⟩ : ∃ u : Int, u = T + days % 40 := ⟨_, rfl⟩
  rw [← hu]
  have hu1 : T ≤ u := by omega
  have hu2 : u ≤ 30000 := by omega
  clear hu hm1 hm2
  refine (ptick_any L A K S T u _).mono ?_; rw [tick_tk G.out hu1 (by omega)]; rintro e w4 ⟨rfl, hbw4⟩; have Btw4 : Blk w4 (w2.heap.size) 26 #[.int .i64 L, .int .i64 A] := (Btw3.out.alloc _).below hbw4; have Baw4 : Blk w4 (w3.heap.size) 29 #[.int .i64 K, .int .i64 S, .int .i64 T] := (Blk.fresh (by simp)).below hbw4; have Lw4 : Below w.heap.size w w4 := btr (bal Lw3.out _) hbw4; have ytw4 := Btw4.lt; have ctw40 : w4.cell? ⟨w2.heap.size, 0, none⟩ = some (.int .i64 L) := Btw4.cell 0; have ctw41 : w4.cell? ⟨w2.heap.size, 1, none⟩ = some (.int .i64 A) := Btw4.cell 1; have yaw4 := Baw4.lt; have caw40 : w4.cell? ⟨w3.heap.size, 0, none⟩ = some (.int .i64 K) := Baw4.cell 0; have caw41 : w4.cell? ⟨w3.heap.size, 1, none⟩ = some (.int .i64 S) := Baw4.cell 1; have caw42 : w4.cell? ⟨w3.heap.size, 2, none⟩ = some (.int .i64 T) := Baw4.cell 2; replace Btw4 := Lib.hid Btw4; replace Baw4 := Lib.hid Baw4; replace Lw4 := Lib.hid Lw4
  have R0 : TkRel w (w2.heap.size) (w4.heap.size) (w4.heap.size + 1) L A K S T u (T - 1) ((w4.alloc (.cells #[.int .i64 K, .int .i64 (tkS L A K S T (u)), .int .i64 (tkT L A K S T (u))] 29)).alloc (.cells #[.int .i64 K, .int .i64 S, .int .i64 T] 29)) := ⟨(bal (bal Lw4.out _) _), by omega, by omega, by omega, ((Btw4.out.alloc _).alloc _), ((Blk.fresh (by simp)).alloc _), by rw [(tk_start (m := T - 1) G.out (by omega)).1, (tk_start (m := T - 1) G.out (by omega)).2]; exact (Blk.fresh (by simp))⟩
  have RR := Lib.hid R0
  clear R0
  go_wp2_with fail
  go_loopw [12] (fun dv wr => TkLoop w (w2.heap.size) (w4.heap.size) (w4.heap.size + 1) L A K S T u dv wr) (fun dv _ => (u + 1 - intOf dv).toNat)
  case atStart => exact ⟨T, rfl, by omega, by omega, RR.out⟩
  case round =>
    clear RR Lw1 Tw1 Lw2 Tw2 Lw3 Tw3 Lw4 Btw3 Btw4 Baw4
    obtain ⟨d, rfl, h1, h2, hR⟩ := hrel
    generalize w2.heap.size = bt at *
    generalize w4.heap.size + 1 = bx at *
    generalize w4.heap.size = bo at *
    by_cases hlt : d ≤ u
    · have hle := tk_le (m := d - 1) G.out (by omega)
      have hst := tk_step G.out hK h1 (by omega)
      have cx0 := hR.x.cell 0; have cx1 := hR.x.cell 1; have cx2 := hR.x.cell 2; have ct0 := hR.terms.cell 0; have ct1 := hR.terms.cell 1
      have hx := hR.x
      have HR := Lib.hid hR
      clear hR
      have hE : d - 1 + 1 = d := by omega
      rw [hE] at hle
      clear hE
      generalize tkS L A K S T (d - 1) = xs at cx1 hst hx
      generalize tkT L A K S T (d - 1) = xt at cx2 hst hle hx
      replace cx0 : wr.cell? ⟨bx, 0, none⟩ = some (.int .i64 K) := cx0; replace cx1 : wr.cell? ⟨bx, 1, none⟩ = some (.int .i64 xs) := cx1; replace cx2 : wr.cell? ⟨bx, 2, none⟩ = some (.int .i64 xt) := cx2; replace ct0 : wr.cell? ⟨bt, 0, none⟩ = some (.int .i64 L) := ct0; replace ct1 : wr.cell? ⟨bt, 1, none⟩ = some (.int .i64 A) := ct1
      have HS := Lib.hid hst
      have HX := Lib.hid hx
      clear hst hx
      go_wp2_with (go_at_call 10; refine (ptick_any L A K xs xt d _).mono ?_; rw [HS.out]; rintro e w6 ⟨rfl, hb6⟩; have H6 := Lib.hid (HR.out.step hb6); have X6 := Lib.hid (HX.out.below hb6); have y6 := X6.out.lt; have dx0 : w6.cell? ⟨bx, 0, none⟩ = some (.int .i64 K) := X6.out.cell 0; have dx1 : w6.cell? ⟨bx, 1, none⟩ = some (.int .i64 xs) := X6.out.cell 1; have dx2 : w6.cell? ⟨bx, 2, none⟩ = some (.int .i64 xt) := X6.out.cell 2; have df0 := X6.out.free 0; have df1 := X6.out.free 1; have df2 := X6.out.free 2)
      go_roundw
      case rel => exact ⟨d + 1, rfl, by omega, by omega, by rw [show d + 1 - 1 = d from by omega]; exact (H6.out.put (m' := d)).alloc _⟩
      case measure => simp [intOf]; omega
    · have hd : d - 1 = u := by omega
      rw [hd] at hR
      clear hd
      have cx0 : wr.cell? ⟨bx, 0, none⟩ = some (.int .i64 K) := hR.x.cell 0; have cx1 : wr.cell? ⟨bx, 1, none⟩ = some (.int .i64 (tkS L A K S T u)) := hR.x.cell 1; have cx2 : wr.cell? ⟨bx, 2, none⟩ = some (.int .i64 (tkT L A K S T u)) := hR.x.cell 2
      have co0 : wr.cell? ⟨bo, 0, none⟩ = some (.int .i64 K) := hR.once.cell 0; have co1 : wr.cell? ⟨bo, 1, none⟩ = some (.int .i64 (tkS L A K S T u)) := hR.once.cell 1; have co2 : wr.cell? ⟨bo, 2, none⟩ = some (.int .i64 (tkT L A K S T u)) := hR.once.cell 2
      have HR := Lib.hid hR
      clear hR
      go_wp2_with (go_at_call 11; refine (awake_any _).mono ?_; rintro e wz ⟨rfl, hbz⟩)
      go_ret
      exact ⟨rfl, btr HR.out.below hbz⟩

end Go.Proofs.Ytldhcgihhknmjaa
