/- The walk of AppealDue: it answers true. -/
import Derived.Test.YtldhcgihhknmjaaAwake
namespace Go.Proofs.Ytldhcgihhknmjaa
open Go.RowKit

theorem fine_cases {L A K S T : Int} (h : Good L A K S T) : (S = 1 ∧ T = K) ∨ (S = 2 ∧ T ≤ K + L) ∨ (S = 3 ∧ T ≤ K + L + A) ∨ (S = 4 ∧ T ≤ K + L + A) ∨ (S = 5 ∧ T = K + L + 1) := by
  have hs := h.2.2
  unfold sinceB at hs
  by_cases s1 : S = 1
  · rw [if_pos s1] at hs; exact .inl ⟨s1, by simpa using hs⟩
  · rw [if_neg s1] at hs
    by_cases s2 : S = 2
    · rw [if_pos s2] at hs; exact .inr (.inl ⟨s2, by simpa using hs⟩)
    · rw [if_neg s2] at hs
      by_cases s5 : S = 5
      · rw [if_pos s5] at hs; exact .inr (.inr (.inr (.inr ⟨s5, by simpa using hs⟩)))
      · rw [if_neg s5] at hs
        by_cases s3 : S = 3 ∨ S = 4
        · rw [if_pos s3] at hs
          rcases s3 with s3 | s4
          · exact .inr (.inr (.inl ⟨s3, by simpa using hs⟩))
          · exact .inr (.inr (.inr (.inl ⟨s4, by simpa using hs⟩)))
        · rw [if_neg s3] at hs; cases hs
section
variable {L A K S T d : Int}
theorem due_1 (h : Good L A K 1 T) : (if Good L A K 1 T then dueI L A K 1 T else -1) = K + L := by rw [if_pos h]; simp [dueI]
theorem due_2 (h : Good L A K 2 T) : (if Good L A K 2 T then dueI L A K 2 T else -1) = T + A := by rw [if_pos h]; simp [dueI]
theorem due_o (h : Good L A K S T) (h1 : S ≠ 1) (h2 : S ≠ 2) : (if Good L A K S T then dueI L A K S T else -1) = -1 := by rw [if_pos h]; simp [dueI, h1, h2]
theorem move_yes {f g : Int} (h : Good L A K f T) (h1 : T ≤ d) (h2 : d ≤ 36864) (h3 : d ≤ dueI L A K f T) : moveR L A K f T f g d = ⟨K, g, d, 0⟩ := by
  unfold moveR; rw [if_pos h, if_neg (by omega), if_neg (by omega), if_neg (by omega)]
theorem move_late {f g : Int} (h : Good L A K f T) (h1 : T ≤ d) (h2 : d ≤ 36864) (h3 : dueI L A K f T < d) : moveR L A K f T f g d = ⟨K, f, T, 21⟩ := by
  unfold moveR; rw [if_pos h, if_neg (by omega), if_neg (by omega), if_pos (by omega)]
theorem tick_same (h : Good L A K S T) (h1 : T ≤ d) (h2 : d ≤ 36864) (h3 : S = 1 → d ≤ K + L) (h4 : S = 2 → d ≤ T + A) : tickR L A K S T d = ⟨K, S, T, 0⟩ := by
  unfold tickR; rw [if_pos h, if_neg (by omega), if_neg (fun c => by have := h3 c.1; omega), if_neg (fun c => by have := h4 c.1; omega)]
theorem tick_open (h : Good L A K 1 T) (h1 : T ≤ d) (h2 : d ≤ 36864) (h3 : K + L < d) : tickR L A K 1 T d = ⟨K, 5, K + L + 1, 0⟩ := by
  unfold tickR; rw [if_pos h, if_neg (by omega), if_pos ⟨rfl, h3⟩]
theorem tick_lodged (h : Good L A K 2 T) (h1 : T ≤ d) (h2 : d ≤ 36864) (h3 : T + A < d) : tickR L A K 2 T d = ⟨K, 4, T + A, 0⟩ := by
  unfold tickR; rw [if_pos h, if_neg (by omega), if_neg (by omega), if_pos ⟨rfl, h3⟩]
end
set_option maxHeartbeats 800000 in
theorem due_walk (a0 : Option Addr) (len0 cap0 : Nat) (z0 : List Int) (w : World) (hr : IsRow .i64 w a0 len0 cap0 z0) :
    Calls Try.prog 6 #[.slice a0 len0 cap0] w fun e w' => e = .returned (.bool true) ∧ Below w.heap.size w w' := by
  have R := Lib.hid hr
  clear hr
  go_enter Try.func6, Try.ntmps6
  go_wp2_with fail
  refine (new_any _ _ _ _ _ R.out).mono ?_
  rintro e w1 ⟨rfl, hbw1, hT1⟩
  have Lw1 := Lib.hid hbw1
  have Tw1 := Lib.hid hT1
  clear hbw1 hT1
  go_wp2_with fail
  refine (terms_any _ _ Tw1.out).mono ?_; rintro e w2 ⟨L, A, l1, l2, l3, l4, rfl, hsw2⟩; have Lw2 : Below w.heap.size w w2 := bos Lw1.out (Nat.le_refl _) hsw2; have Tw2 := Lib.hid (Steps1.now hsw2); have bw2 := (Steps1.now hsw2).lt; replace Lw2 := Lib.hid Lw2; clear hsw2
  go_wp2_with fail
  refine (appeal_any _ _ _ _ (Tw2.out.alloc _) l1 l2 l3 l4).mono ?_; rintro e w3 ⟨K, S, T, hf, rfl, hsw3⟩; have Btw3 : Blk w3 (w2.heap.size) 26 #[.int .i64 L, .int .i64 A] := (Blk.fresh (by simp)).step hsw3 (by omega); have Lw3 : Below w.heap.size w w3 := bos (bal Lw2.out _) (Nat.le_refl _) hsw3; have Tw3 := Lib.hid (Steps1.now hsw3); have bw3 := (Steps1.now hsw3).lt; have ytw3 := Btw3.lt; have ctw30 : w3.cell? ⟨w2.heap.size, 0, none⟩ = some (.int .i64 L) := Btw3.cell 0; have ctw31 : w3.cell? ⟨w2.heap.size, 1, none⟩ = some (.int .i64 A) := Btw3.cell 1; replace Btw3 := Lib.hid Btw3; replace Lw3 := Lib.hid Lw3; clear hsw3
  have hG := hf.1
  have hlim := good_lim hG
  have hK := hf.2
  clear hf
  rcases fine_cases hG with ⟨rfl, hT⟩ | ⟨rfl, hT⟩ | ⟨rfl, hT⟩ | ⟨rfl, hT⟩ | ⟨rfl, hT⟩
  · obtain rfl : K = T := hT.symm
    have G := Lib.hid hG
    clear hG
    go_wp2_with fail
    refine (pdue_any L A K 1 K _).mono ?_; rw [due_1 G.out]; rintro e w4 ⟨rfl, hbw4⟩; have Btw4 : Blk w4 (w2.heap.size) 26 #[.int .i64 L, .int .i64 A] := (Btw3.out.alloc _).below hbw4; have Baw4 : Blk w4 (w3.heap.size) 29 #[.int .i64 K, .int .i64 1, .int .i64 K] := (Blk.fresh (by simp)).below hbw4; have Lw4 : Below w.heap.size w w4 := btr (bal Lw3.out _) hbw4; have ytw4 := Btw4.lt; have ctw40 : w4.cell? ⟨w2.heap.size, 0, none⟩ = some (.int .i64 L) := Btw4.cell 0; have ctw41 : w4.cell? ⟨w2.heap.size, 1, none⟩ = some (.int .i64 A) := Btw4.cell 1; have yaw4 := Baw4.lt; have caw40 : w4.cell? ⟨w3.heap.size, 0, none⟩ = some (.int .i64 K) := Baw4.cell 0; have caw41 : w4.cell? ⟨w3.heap.size, 1, none⟩ = some (.int .i64 1) := Baw4.cell 1; have caw42 : w4.cell? ⟨w3.heap.size, 2, none⟩ = some (.int .i64 K) := Baw4.cell 2; replace Btw4 := Lib.hid Btw4; replace Baw4 := Lib.hid Baw4; replace Lw4 := Lib.hid Lw4
    go_wp2_with fail
    refine (psettled_any K 1 K _).mono ?_; rw [show settledB 1 = false from rfl]; rintro e w5 ⟨rfl, hbw5⟩; have Btw5 : Blk w5 (w2.heap.size) 26 #[.int .i64 L, .int .i64 A] := Btw4.out.below hbw5; have Baw5 : Blk w5 (w3.heap.size) 29 #[.int .i64 K, .int .i64 1, .int .i64 K] := Baw4.out.below hbw5; have Lw5 : Below w.heap.size w w5 := btr Lw4.out hbw5; have ytw5 := Btw5.lt; have ctw50 : w5.cell? ⟨w2.heap.size, 0, none⟩ = some (.int .i64 L) := Btw5.cell 0; have ctw51 : w5.cell? ⟨w2.heap.size, 1, none⟩ = some (.int .i64 A) := Btw5.cell 1; have yaw5 := Baw5.lt; have caw50 : w5.cell? ⟨w3.heap.size, 0, none⟩ = some (.int .i64 K) := Baw5.cell 0; have caw51 : w5.cell? ⟨w3.heap.size, 1, none⟩ = some (.int .i64 1) := Baw5.cell 1; have caw52 : w5.cell? ⟨w3.heap.size, 2, none⟩ = some (.int .i64 K) := Baw5.cell 2; replace Btw5 := Lib.hid Btw5; replace Baw5 := Lib.hid Baw5; replace Lw5 := Lib.hid Lw5
    go_wp2_with fail
    refine (plodge_any L A K 1 K (K + L) _).mono ?_; rw [move_yes (g := 2) G.out (by omega) (by omega) (by simp [dueI] <;> omega)]; rintro e w6 ⟨rfl, hbw6⟩; have Btw6 : Blk w6 (w2.heap.size) 26 #[.int .i64 L, .int .i64 A] := Btw5.out.below hbw6; have Baw6 : Blk w6 (w3.heap.size) 29 #[.int .i64 K, .int .i64 1, .int .i64 K] := Baw5.out.below hbw6; have Lw6 : Below w.heap.size w w6 := btr Lw5.out hbw6; have ytw6 := Btw6.lt; have ctw60 : w6.cell? ⟨w2.heap.size, 0, none⟩ = some (.int .i64 L) := Btw6.cell 0; have ctw61 : w6.cell? ⟨w2.heap.size, 1, none⟩ = some (.int .i64 A) := Btw6.cell 1; have yaw6 := Baw6.lt; have caw60 : w6.cell? ⟨w3.heap.size, 0, none⟩ = some (.int .i64 K) := Baw6.cell 0; have caw61 : w6.cell? ⟨w3.heap.size, 1, none⟩ = some (.int .i64 1) := Baw6.cell 1; have caw62 : w6.cell? ⟨w3.heap.size, 2, none⟩ = some (.int .i64 K) := Baw6.cell 2; replace Btw6 := Lib.hid Btw6; replace Baw6 := Lib.hid Baw6; replace Lw6 := Lib.hid Lw6
    go_wp2_with fail
    refine (plodge_any L A K 1 K (K + L + 1) _).mono ?_; rw [move_late (g := 2) G.out (by omega) (by omega) (by simp [dueI] <;> omega)]; rintro e w7 ⟨rfl, hbw7⟩; have Btw7 : Blk w7 (w2.heap.size) 26 #[.int .i64 L, .int .i64 A] := Btw6.out.below hbw7; have Baw7 : Blk w7 (w3.heap.size) 29 #[.int .i64 K, .int .i64 1, .int .i64 K] := Baw6.out.below hbw7; have Lw7 : Below w.heap.size w w7 := btr Lw6.out hbw7; have ytw7 := Btw7.lt; have ctw70 : w7.cell? ⟨w2.heap.size, 0, none⟩ = some (.int .i64 L) := Btw7.cell 0; have ctw71 : w7.cell? ⟨w2.heap.size, 1, none⟩ = some (.int .i64 A) := Btw7.cell 1; have yaw7 := Baw7.lt; have caw70 : w7.cell? ⟨w3.heap.size, 0, none⟩ = some (.int .i64 K) := Baw7.cell 0; have caw71 : w7.cell? ⟨w3.heap.size, 1, none⟩ = some (.int .i64 1) := Baw7.cell 1; have caw72 : w7.cell? ⟨w3.heap.size, 2, none⟩ = some (.int .i64 K) := Baw7.cell 2; replace Btw7 := Lib.hid Btw7; replace Baw7 := Lib.hid Baw7; replace Lw7 := Lib.hid Lw7
    go_wp2_with fail
    refine (ptick_any L A K 1 K (K + L) _).mono ?_; rw [tick_same G.out (by omega) (by omega) (by omega) (by omega)]; rintro e w8 ⟨rfl, hbw8⟩; have Btw8 : Blk w8 (w2.heap.size) 26 #[.int .i64 L, .int .i64 A] := Btw7.out.below hbw8; have Baw8 : Blk w8 (w3.heap.size) 29 #[.int .i64 K, .int .i64 1, .int .i64 K] := Baw7.out.below hbw8; have Lw8 : Below w.heap.size w w8 := btr Lw7.out hbw8; have ytw8 := Btw8.lt; have ctw80 : w8.cell? ⟨w2.heap.size, 0, none⟩ = some (.int .i64 L) := Btw8.cell 0; have ctw81 : w8.cell? ⟨w2.heap.size, 1, none⟩ = some (.int .i64 A) := Btw8.cell 1; have yaw8 := Baw8.lt; have caw80 : w8.cell? ⟨w3.heap.size, 0, none⟩ = some (.int .i64 K) := Baw8.cell 0; have caw81 : w8.cell? ⟨w3.heap.size, 1, none⟩ = some (.int .i64 1) := Baw8.cell 1; have caw82 : w8.cell? ⟨w3.heap.size, 2, none⟩ = some (.int .i64 K) := Baw8.cell 2; replace Btw8 := Lib.hid Btw8; replace Baw8 := Lib.hid Baw8; replace Lw8 := Lib.hid Lw8
    go_wp2_with fail
    refine (ptick_any L A K 1 K (K + L + 1) _).mono ?_; rw [tick_open G.out (by omega) (by omega) (by omega)]; rintro e w9 ⟨rfl, hbw9⟩; have Btw9 : Blk w9 (w2.heap.size) 26 #[.int .i64 L, .int .i64 A] := (Btw8.out.alloc _).below hbw9; have Baw9 : Blk w9 (w3.heap.size) 29 #[.int .i64 K, .int .i64 1, .int .i64 K] := (Baw8.out.alloc _).below hbw9; have Bcw9 : Blk w9 (w8.heap.size) 29 #[.int .i64 K, .int .i64 1, .int .i64 K] := (Blk.fresh (by simp)).below hbw9; have Lw9 : Below w.heap.size w w9 := btr (bal Lw8.out _) hbw9; have ytw9 := Btw9.lt; have ctw90 : w9.cell? ⟨w2.heap.size, 0, none⟩ = some (.int .i64 L) := Btw9.cell 0; have ctw91 : w9.cell? ⟨w2.heap.size, 1, none⟩ = some (.int .i64 A) := Btw9.cell 1; have yaw9 := Baw9.lt; have caw90 : w9.cell? ⟨w3.heap.size, 0, none⟩ = some (.int .i64 K) := Baw9.cell 0; have caw91 : w9.cell? ⟨w3.heap.size, 1, none⟩ = some (.int .i64 1) := Baw9.cell 1; have caw92 : w9.cell? ⟨w3.heap.size, 2, none⟩ = some (.int .i64 K) := Baw9.cell 2; have ycw9 := Bcw9.lt; have ccw90 : w9.cell? ⟨w8.heap.size, 0, none⟩ = some (.int .i64 K) := Bcw9.cell 0; have ccw91 : w9.cell? ⟨w8.heap.size, 1, none⟩ = some (.int .i64 1) := Bcw9.cell 1; have ccw92 : w9.cell? ⟨w8.heap.size, 2, none⟩ = some (.int .i64 K) := Bcw9.cell 2; replace Btw9 := Lib.hid Btw9; replace Baw9 := Lib.hid Baw9; replace Bcw9 := Lib.hid Bcw9; replace Lw9 := Lib.hid Lw9
    go_wp2_with fail
    refine (psettled_any K 5 (K + L + 1) _).mono ?_; rw [show settledB 5 = true from rfl]; rintro e w10 ⟨rfl, hbw10⟩; have Btw10 : Blk w10 (w2.heap.size) 26 #[.int .i64 L, .int .i64 A] := (Btw9.out.alloc _).below hbw10; have Baw10 : Blk w10 (w3.heap.size) 29 #[.int .i64 K, .int .i64 1, .int .i64 K] := (Baw9.out.alloc _).below hbw10; have Bcw10 : Blk w10 (w8.heap.size) 29 #[.int .i64 K, .int .i64 1, .int .i64 K] := (Bcw9.out.alloc _).below hbw10; have Bdw10 : Blk w10 (w9.heap.size) 29 #[.int .i64 K, .int .i64 5, .int .i64 (K + L + 1)] := (Blk.fresh (by simp)).below hbw10; have Lw10 : Below w.heap.size w w10 := btr (bal Lw9.out _) hbw10; have ytw10 := Btw10.lt; have ctw100 : w10.cell? ⟨w2.heap.size, 0, none⟩ = some (.int .i64 L) := Btw10.cell 0; have ctw101 : w10.cell? ⟨w2.heap.size, 1, none⟩ = some (.int .i64 A) := Btw10.cell 1; have yaw10 := Baw10.lt; have caw100 : w10.cell? ⟨w3.heap.size, 0, none⟩ = some (.int .i64 K) := Baw10.cell 0; have caw101 : w10.cell? ⟨w3.heap.size, 1, none⟩ = some (.int .i64 1) := Baw10.cell 1; have caw102 : w10.cell? ⟨w3.heap.size, 2, none⟩ = some (.int .i64 K) := Baw10.cell 2; have ycw10 := Bcw10.lt; have ccw100 : w10.cell? ⟨w8.heap.size, 0, none⟩ = some (.int .i64 K) := Bcw10.cell 0; have ccw101 : w10.cell? ⟨w8.heap.size, 1, none⟩ = some (.int .i64 1) := Bcw10.cell 1; have ccw102 : w10.cell? ⟨w8.heap.size, 2, none⟩ = some (.int .i64 K) := Bcw10.cell 2; have ydw10 := Bdw10.lt; have cdw100 : w10.cell? ⟨w9.heap.size, 0, none⟩ = some (.int .i64 K) := Bdw10.cell 0; have cdw101 : w10.cell? ⟨w9.heap.size, 1, none⟩ = some (.int .i64 5) := Bdw10.cell 1; have cdw102 : w10.cell? ⟨w9.heap.size, 2, none⟩ = some (.int .i64 (K + L + 1)) := Bdw10.cell 2; replace Btw10 := Lib.hid Btw10; replace Baw10 := Lib.hid Baw10; replace Bcw10 := Lib.hid Bcw10; replace Bdw10 := Lib.hid Bdw10; replace Lw10 := Lib.hid Lw10
    go_wp2_with fail
    refine (awake_any _).mono ?_; rintro e wz ⟨rfl, hbz⟩
    go_wp2
    go_ret
    exact ⟨rfl, btr Lw10.out hbz⟩
  · have G := Lib.hid hG
    clear hG
    go_wp2_with fail
    refine (pdue_any L A K 2 T _).mono ?_; rw [due_2 G.out]; rintro e w4 ⟨rfl, hbw4⟩; have Btw4 : Blk w4 (w2.heap.size) 26 #[.int .i64 L, .int .i64 A] := (Btw3.out.alloc _).below hbw4; have Baw4 : Blk w4 (w3.heap.size) 29 #[.int .i64 K, .int .i64 2, .int .i64 T] := (Blk.fresh (by simp)).below hbw4; have Lw4 : Below w.heap.size w w4 := btr (bal Lw3.out _) hbw4; have ytw4 := Btw4.lt; have ctw40 : w4.cell? ⟨w2.heap.size, 0, none⟩ = some (.int .i64 L) := Btw4.cell 0; have ctw41 : w4.cell? ⟨w2.heap.size, 1, none⟩ = some (.int .i64 A) := Btw4.cell 1; have yaw4 := Baw4.lt; have caw40 : w4.cell? ⟨w3.heap.size, 0, none⟩ = some (.int .i64 K) := Baw4.cell 0; have caw41 : w4.cell? ⟨w3.heap.size, 1, none⟩ = some (.int .i64 2) := Baw4.cell 1; have caw42 : w4.cell? ⟨w3.heap.size, 2, none⟩ = some (.int .i64 T) := Baw4.cell 2; replace Btw4 := Lib.hid Btw4; replace Baw4 := Lib.hid Baw4; replace Lw4 := Lib.hid Lw4
    go_wp2_with fail
    refine (psettled_any K 2 T _).mono ?_; rw [show settledB 2 = false from rfl]; rintro e w5 ⟨rfl, hbw5⟩; have Btw5 : Blk w5 (w2.heap.size) 26 #[.int .i64 L, .int .i64 A] := Btw4.out.below hbw5; have Baw5 : Blk w5 (w3.heap.size) 29 #[.int .i64 K, .int .i64 2, .int .i64 T] := Baw4.out.below hbw5; have Lw5 : Below w.heap.size w w5 := btr Lw4.out hbw5; have ytw5 := Btw5.lt; have ctw50 : w5.cell? ⟨w2.heap.size, 0, none⟩ = some (.int .i64 L) := Btw5.cell 0; have ctw51 : w5.cell? ⟨w2.heap.size, 1, none⟩ = some (.int .i64 A) := Btw5.cell 1; have yaw5 := Baw5.lt; have caw50 : w5.cell? ⟨w3.heap.size, 0, none⟩ = some (.int .i64 K) := Baw5.cell 0; have caw51 : w5.cell? ⟨w3.heap.size, 1, none⟩ = some (.int .i64 2) := Baw5.cell 1; have caw52 : w5.cell? ⟨w3.heap.size, 2, none⟩ = some (.int .i64 T) := Baw5.cell 2; replace Btw5 := Lib.hid Btw5; replace Baw5 := Lib.hid Baw5; replace Lw5 := Lib.hid Lw5
    go_wp2_with fail
    refine (pdecide_any L A K 2 T (T + A) true _).mono ?_; rw [move_yes (g := (if true = true then 4 else 3)) G.out (by omega) (by omega) (by simp [dueI] <;> omega)]; rintro e w6 ⟨rfl, hbw6⟩; have Btw6 : Blk w6 (w2.heap.size) 26 #[.int .i64 L, .int .i64 A] := Btw5.out.below hbw6; have Baw6 : Blk w6 (w3.heap.size) 29 #[.int .i64 K, .int .i64 2, .int .i64 T] := Baw5.out.below hbw6; have Lw6 : Below w.heap.size w w6 := btr Lw5.out hbw6; have ytw6 := Btw6.lt; have ctw60 : w6.cell? ⟨w2.heap.size, 0, none⟩ = some (.int .i64 L) := Btw6.cell 0; have ctw61 : w6.cell? ⟨w2.heap.size, 1, none⟩ = some (.int .i64 A) := Btw6.cell 1; have yaw6 := Baw6.lt; have caw60 : w6.cell? ⟨w3.heap.size, 0, none⟩ = some (.int .i64 K) := Baw6.cell 0; have caw61 : w6.cell? ⟨w3.heap.size, 1, none⟩ = some (.int .i64 2) := Baw6.cell 1; have caw62 : w6.cell? ⟨w3.heap.size, 2, none⟩ = some (.int .i64 T) := Baw6.cell 2; replace Btw6 := Lib.hid Btw6; replace Baw6 := Lib.hid Baw6; replace Lw6 := Lib.hid Lw6
    go_wp2_with fail
    refine (pdecide_any L A K 2 T (T + A + 1) false _).mono ?_; rw [move_late (g := (if false = true then 4 else 3)) G.out (by omega) (by omega) (by simp [dueI] <;> omega)]; rintro e w7 ⟨rfl, hbw7⟩; have Btw7 : Blk w7 (w2.heap.size) 26 #[.int .i64 L, .int .i64 A] := Btw6.out.below hbw7; have Baw7 : Blk w7 (w3.heap.size) 29 #[.int .i64 K, .int .i64 2, .int .i64 T] := Baw6.out.below hbw7; have Lw7 : Below w.heap.size w w7 := btr Lw6.out hbw7; have ytw7 := Btw7.lt; have ctw70 : w7.cell? ⟨w2.heap.size, 0, none⟩ = some (.int .i64 L) := Btw7.cell 0; have ctw71 : w7.cell? ⟨w2.heap.size, 1, none⟩ = some (.int .i64 A) := Btw7.cell 1; have yaw7 := Baw7.lt; have caw70 : w7.cell? ⟨w3.heap.size, 0, none⟩ = some (.int .i64 K) := Baw7.cell 0; have caw71 : w7.cell? ⟨w3.heap.size, 1, none⟩ = some (.int .i64 2) := Baw7.cell 1; have caw72 : w7.cell? ⟨w3.heap.size, 2, none⟩ = some (.int .i64 T) := Baw7.cell 2; replace Btw7 := Lib.hid Btw7; replace Baw7 := Lib.hid Baw7; replace Lw7 := Lib.hid Lw7
    go_wp2_with fail
    refine (ptick_any L A K 2 T (T + A) _).mono ?_; rw [tick_same G.out (by omega) (by omega) (by omega) (by omega)]; rintro e w8 ⟨rfl, hbw8⟩; have Btw8 : Blk w8 (w2.heap.size) 26 #[.int .i64 L, .int .i64 A] := Btw7.out.below hbw8; have Baw8 : Blk w8 (w3.heap.size) 29 #[.int .i64 K, .int .i64 2, .int .i64 T] := Baw7.out.below hbw8; have Lw8 : Below w.heap.size w w8 := btr Lw7.out hbw8; have ytw8 := Btw8.lt; have ctw80 : w8.cell? ⟨w2.heap.size, 0, none⟩ = some (.int .i64 L) := Btw8.cell 0; have ctw81 : w8.cell? ⟨w2.heap.size, 1, none⟩ = some (.int .i64 A) := Btw8.cell 1; have yaw8 := Baw8.lt; have caw80 : w8.cell? ⟨w3.heap.size, 0, none⟩ = some (.int .i64 K) := Baw8.cell 0; have caw81 : w8.cell? ⟨w3.heap.size, 1, none⟩ = some (.int .i64 2) := Baw8.cell 1; have caw82 : w8.cell? ⟨w3.heap.size, 2, none⟩ = some (.int .i64 T) := Baw8.cell 2; replace Btw8 := Lib.hid Btw8; replace Baw8 := Lib.hid Baw8; replace Lw8 := Lib.hid Lw8
    go_wp2_with fail
    refine (ptick_any L A K 2 T (T + A + 1) _).mono ?_; rw [tick_lodged G.out (by omega) (by omega) (by omega)]; rintro e w9 ⟨rfl, hbw9⟩; have Btw9 : Blk w9 (w2.heap.size) 26 #[.int .i64 L, .int .i64 A] := (Btw8.out.alloc _).below hbw9; have Baw9 : Blk w9 (w3.heap.size) 29 #[.int .i64 K, .int .i64 2, .int .i64 T] := (Baw8.out.alloc _).below hbw9; have Bcw9 : Blk w9 (w8.heap.size) 29 #[.int .i64 K, .int .i64 2, .int .i64 T] := (Blk.fresh (by simp)).below hbw9; have Lw9 : Below w.heap.size w w9 := btr (bal Lw8.out _) hbw9; have ytw9 := Btw9.lt; have ctw90 : w9.cell? ⟨w2.heap.size, 0, none⟩ = some (.int .i64 L) := Btw9.cell 0; have ctw91 : w9.cell? ⟨w2.heap.size, 1, none⟩ = some (.int .i64 A) := Btw9.cell 1; have yaw9 := Baw9.lt; have caw90 : w9.cell? ⟨w3.heap.size, 0, none⟩ = some (.int .i64 K) := Baw9.cell 0; have caw91 : w9.cell? ⟨w3.heap.size, 1, none⟩ = some (.int .i64 2) := Baw9.cell 1; have caw92 : w9.cell? ⟨w3.heap.size, 2, none⟩ = some (.int .i64 T) := Baw9.cell 2; have ycw9 := Bcw9.lt; have ccw90 : w9.cell? ⟨w8.heap.size, 0, none⟩ = some (.int .i64 K) := Bcw9.cell 0; have ccw91 : w9.cell? ⟨w8.heap.size, 1, none⟩ = some (.int .i64 2) := Bcw9.cell 1; have ccw92 : w9.cell? ⟨w8.heap.size, 2, none⟩ = some (.int .i64 T) := Bcw9.cell 2; replace Btw9 := Lib.hid Btw9; replace Baw9 := Lib.hid Baw9; replace Bcw9 := Lib.hid Bcw9; replace Lw9 := Lib.hid Lw9
    go_wp2_with fail
    refine (psettled_any K 4 (T + A) _).mono ?_; rw [show settledB 4 = true from rfl]; rintro e w10 ⟨rfl, hbw10⟩; have Btw10 : Blk w10 (w2.heap.size) 26 #[.int .i64 L, .int .i64 A] := (Btw9.out.alloc _).below hbw10; have Baw10 : Blk w10 (w3.heap.size) 29 #[.int .i64 K, .int .i64 2, .int .i64 T] := (Baw9.out.alloc _).below hbw10; have Bcw10 : Blk w10 (w8.heap.size) 29 #[.int .i64 K, .int .i64 2, .int .i64 T] := (Bcw9.out.alloc _).below hbw10; have Bdw10 : Blk w10 (w9.heap.size) 29 #[.int .i64 K, .int .i64 4, .int .i64 (T + A)] := (Blk.fresh (by simp)).below hbw10; have Lw10 : Below w.heap.size w w10 := btr (bal Lw9.out _) hbw10; have ytw10 := Btw10.lt; have ctw100 : w10.cell? ⟨w2.heap.size, 0, none⟩ = some (.int .i64 L) := Btw10.cell 0; have ctw101 : w10.cell? ⟨w2.heap.size, 1, none⟩ = some (.int .i64 A) := Btw10.cell 1; have yaw10 := Baw10.lt; have caw100 : w10.cell? ⟨w3.heap.size, 0, none⟩ = some (.int .i64 K) := Baw10.cell 0; have caw101 : w10.cell? ⟨w3.heap.size, 1, none⟩ = some (.int .i64 2) := Baw10.cell 1; have caw102 : w10.cell? ⟨w3.heap.size, 2, none⟩ = some (.int .i64 T) := Baw10.cell 2; have ycw10 := Bcw10.lt; have ccw100 : w10.cell? ⟨w8.heap.size, 0, none⟩ = some (.int .i64 K) := Bcw10.cell 0; have ccw101 : w10.cell? ⟨w8.heap.size, 1, none⟩ = some (.int .i64 2) := Bcw10.cell 1; have ccw102 : w10.cell? ⟨w8.heap.size, 2, none⟩ = some (.int .i64 T) := Bcw10.cell 2; have ydw10 := Bdw10.lt; have cdw100 : w10.cell? ⟨w9.heap.size, 0, none⟩ = some (.int .i64 K) := Bdw10.cell 0; have cdw101 : w10.cell? ⟨w9.heap.size, 1, none⟩ = some (.int .i64 4) := Bdw10.cell 1; have cdw102 : w10.cell? ⟨w9.heap.size, 2, none⟩ = some (.int .i64 (T + A)) := Bdw10.cell 2; replace Btw10 := Lib.hid Btw10; replace Baw10 := Lib.hid Baw10; replace Bcw10 := Lib.hid Bcw10; replace Bdw10 := Lib.hid Bdw10; replace Lw10 := Lib.hid Lw10
    go_wp2_with fail
    refine (awake_any _).mono ?_; rintro e wz ⟨rfl, hbz⟩
    go_wp2
    go_ret
    exact ⟨rfl, btr Lw10.out hbz⟩
  · have HT := Lib.hid hT
    clear hT
    have G := Lib.hid hG
    clear hG
    go_wp2_with fail
    refine (pdue_any L A K 3 T _).mono ?_; rw [due_o G.out (by omega) (by omega)]; rintro e w4 ⟨rfl, hbw4⟩; have Btw4 : Blk w4 (w2.heap.size) 26 #[.int .i64 L, .int .i64 A] := (Btw3.out.alloc _).below hbw4; have Baw4 : Blk w4 (w3.heap.size) 29 #[.int .i64 K, .int .i64 3, .int .i64 T] := (Blk.fresh (by simp)).below hbw4; have Lw4 : Below w.heap.size w w4 := btr (bal Lw3.out _) hbw4; have ytw4 := Btw4.lt; have ctw40 : w4.cell? ⟨w2.heap.size, 0, none⟩ = some (.int .i64 L) := Btw4.cell 0; have ctw41 : w4.cell? ⟨w2.heap.size, 1, none⟩ = some (.int .i64 A) := Btw4.cell 1; have yaw4 := Baw4.lt; have caw40 : w4.cell? ⟨w3.heap.size, 0, none⟩ = some (.int .i64 K) := Baw4.cell 0; have caw41 : w4.cell? ⟨w3.heap.size, 1, none⟩ = some (.int .i64 3) := Baw4.cell 1; have caw42 : w4.cell? ⟨w3.heap.size, 2, none⟩ = some (.int .i64 T) := Baw4.cell 2; replace Btw4 := Lib.hid Btw4; replace Baw4 := Lib.hid Baw4; replace Lw4 := Lib.hid Lw4
    go_wp2_with fail
    refine (psettled_any K 3 T _).mono ?_; rw [show settledB 3 = true from rfl]; rintro e w5 ⟨rfl, hbw5⟩; have Btw5 : Blk w5 (w2.heap.size) 26 #[.int .i64 L, .int .i64 A] := Btw4.out.below hbw5; have Baw5 : Blk w5 (w3.heap.size) 29 #[.int .i64 K, .int .i64 3, .int .i64 T] := Baw4.out.below hbw5; have Lw5 : Below w.heap.size w w5 := btr Lw4.out hbw5; have ytw5 := Btw5.lt; have ctw50 : w5.cell? ⟨w2.heap.size, 0, none⟩ = some (.int .i64 L) := Btw5.cell 0; have ctw51 : w5.cell? ⟨w2.heap.size, 1, none⟩ = some (.int .i64 A) := Btw5.cell 1; have yaw5 := Baw5.lt; have caw50 : w5.cell? ⟨w3.heap.size, 0, none⟩ = some (.int .i64 K) := Baw5.cell 0; have caw51 : w5.cell? ⟨w3.heap.size, 1, none⟩ = some (.int .i64 3) := Baw5.cell 1; have caw52 : w5.cell? ⟨w3.heap.size, 2, none⟩ = some (.int .i64 T) := Baw5.cell 2; replace Btw5 := Lib.hid Btw5; replace Baw5 := Lib.hid Baw5; replace Lw5 := Lib.hid Lw5
    go_wp2_with fail
    refine (awake_any _).mono ?_; rintro e wz ⟨rfl, hbz⟩
    go_wp2
    go_ret
    exact ⟨rfl, btr Lw5.out hbz⟩
  · have HT := Lib.hid hT
    clear hT
    have G := Lib.hid hG
    clear hG
    go_wp2_with fail
    refine (pdue_any L A K 4 T _).mono ?_; rw [due_o G.out (by omega) (by omega)]; rintro e w4 ⟨rfl, hbw4⟩; have Btw4 : Blk w4 (w2.heap.size) 26 #[.int .i64 L, .int .i64 A] := (Btw3.out.alloc _).below hbw4; have Baw4 : Blk w4 (w3.heap.size) 29 #[.int .i64 K, .int .i64 4, .int .i64 T] := (Blk.fresh (by simp)).below hbw4; have Lw4 : Below w.heap.size w w4 := btr (bal Lw3.out _) hbw4; have ytw4 := Btw4.lt; have ctw40 : w4.cell? ⟨w2.heap.size, 0, none⟩ = some (.int .i64 L) := Btw4.cell 0; have ctw41 : w4.cell? ⟨w2.heap.size, 1, none⟩ = some (.int .i64 A) := Btw4.cell 1; have yaw4 := Baw4.lt; have caw40 : w4.cell? ⟨w3.heap.size, 0, none⟩ = some (.int .i64 K) := Baw4.cell 0; have caw41 : w4.cell? ⟨w3.heap.size, 1, none⟩ = some (.int .i64 4) := Baw4.cell 1; have caw42 : w4.cell? ⟨w3.heap.size, 2, none⟩ = some (.int .i64 T) := Baw4.cell 2; replace Btw4 := Lib.hid Btw4; replace Baw4 := Lib.hid Baw4; replace Lw4 := Lib.hid Lw4
    go_wp2_with fail
    refine (psettled_any K 4 T _).mono ?_; rw [show settledB 4 = true from rfl]; rintro e w5 ⟨rfl, hbw5⟩; have Btw5 : Blk w5 (w2.heap.size) 26 #[.int .i64 L, .int .i64 A] := Btw4.out.below hbw5; have Baw5 : Blk w5 (w3.heap.size) 29 #[.int .i64 K, .int .i64 4, .int .i64 T] := Baw4.out.below hbw5; have Lw5 : Below w.heap.size w w5 := btr Lw4.out hbw5; have ytw5 := Btw5.lt; have ctw50 : w5.cell? ⟨w2.heap.size, 0, none⟩ = some (.int .i64 L) := Btw5.cell 0; have ctw51 : w5.cell? ⟨w2.heap.size, 1, none⟩ = some (.int .i64 A) := Btw5.cell 1; have yaw5 := Baw5.lt; have caw50 : w5.cell? ⟨w3.heap.size, 0, none⟩ = some (.int .i64 K) := Baw5.cell 0; have caw51 : w5.cell? ⟨w3.heap.size, 1, none⟩ = some (.int .i64 4) := Baw5.cell 1; have caw52 : w5.cell? ⟨w3.heap.size, 2, none⟩ = some (.int .i64 T) := Baw5.cell 2; replace Btw5 := Lib.hid Btw5; replace Baw5 := Lib.hid Baw5; replace Lw5 := Lib.hid Lw5
    go_wp2_with fail
    refine (awake_any _).mono ?_; rintro e wz ⟨rfl, hbz⟩
    go_wp2
    go_ret
    exact ⟨rfl, btr Lw5.out hbz⟩
  · have HT := Lib.hid hT
    clear hT
    have G := Lib.hid hG
    clear hG
    go_wp2_with fail
    refine (pdue_any L A K 5 T _).mono ?_; rw [due_o G.out (by omega) (by omega)]; rintro e w4 ⟨rfl, hbw4⟩; have Btw4 : Blk w4 (w2.heap.size) 26 #[.int .i64 L, .int .i64 A] := (Btw3.out.alloc _).below hbw4; have Baw4 : Blk w4 (w3.heap.size) 29 #[.int .i64 K, .int .i64 5, .int .i64 T] := (Blk.fresh (by simp)).below hbw4; have Lw4 : Below w.heap.size w w4 := btr (bal Lw3.out _) hbw4; have ytw4 := Btw4.lt; have ctw40 : w4.cell? ⟨w2.heap.size, 0, none⟩ = some (.int .i64 L) := Btw4.cell 0; have ctw41 : w4.cell? ⟨w2.heap.size, 1, none⟩ = some (.int .i64 A) := Btw4.cell 1; have yaw4 := Baw4.lt; have caw40 : w4.cell? ⟨w3.heap.size, 0, none⟩ = some (.int .i64 K) := Baw4.cell 0; have caw41 : w4.cell? ⟨w3.heap.size, 1, none⟩ = some (.int .i64 5) := Baw4.cell 1; have caw42 : w4.cell? ⟨w3.heap.size, 2, none⟩ = some (.int .i64 T) := Baw4.cell 2; replace Btw4 := Lib.hid Btw4; replace Baw4 := Lib.hid Baw4; replace Lw4 := Lib.hid Lw4
    go_wp2_with fail
    refine (psettled_any K 5 T _).mono ?_; rw [show settledB 5 = true from rfl]; rintro e w5 ⟨rfl, hbw5⟩; have Btw5 : Blk w5 (w2.heap.size) 26 #[.int .i64 L, .int .i64 A] := Btw4.out.below hbw5; have Baw5 : Blk w5 (w3.heap.size) 29 #[.int .i64 K, .int .i64 5, .int .i64 T] := Baw4.out.below hbw5; have Lw5 : Below w.heap.size w w5 := btr Lw4.out hbw5; have ytw5 := Btw5.lt; have ctw50 : w5.cell? ⟨w2.heap.size, 0, none⟩ = some (.int .i64 L) := Btw5.cell 0; have ctw51 : w5.cell? ⟨w2.heap.size, 1, none⟩ = some (.int .i64 A) := Btw5.cell 1; have yaw5 := Baw5.lt; have caw50 : w5.cell? ⟨w3.heap.size, 0, none⟩ = some (.int .i64 K) := Baw5.cell 0; have caw51 : w5.cell? ⟨w3.heap.size, 1, none⟩ = some (.int .i64 5) := Baw5.cell 1; have caw52 : w5.cell? ⟨w3.heap.size, 2, none⟩ = some (.int .i64 T) := Baw5.cell 2; replace Btw5 := Lib.hid Btw5; replace Baw5 := Lib.hid Baw5; replace Lw5 := Lib.hid Lw5
    go_wp2_with fail
    refine (awake_any _).mono ?_; rintro e wz ⟨rfl, hbz⟩
    go_wp2
    go_ret
    exact ⟨rfl, btr Lw5.out hbz⟩

end Go.Proofs.Ytldhcgihhknmjaa
