/- The tape of the law package's keeper: numbers in range, one after the other; only the tape's own block turns. -/
import Derived.Test.YtglhenobodndjaaGreatDoorBase
namespace Go.Proofs.YtglhenobodndjaaGreatDoor
open Go.RowKit

def modI (k n : Int) : Int := if k.tmod n < 0 then k.tmod n + n else k.tmod n
theorem modI_lo (k n : Int) (h : 1 ≤ n) : 0 ≤ modI k n := by
  unfold modI
  split
  · have := Int.lt_tmod_of_pos k (show 0 < n by omega); omega
  · omega
theorem modI_hi (k n : Int) (h : 1 ≤ n) : modI k n < n := by
  unfold modI
  have := Int.tmod_lt_of_pos k (show 0 < n by omega)
  split <;> omega

set_option maxHeartbeats 1000000 in
theorem mod_any (k n : Int) (w : World) (h1 : 1 ≤ n) (h2 : n ≤ 1000000000000) :
    Calls Tryz.prog 16 #[.int .i64 k, .int .i64 n] w fun e w' => e = .returned (.int .i64 (modI k n)) ∧ w' = w := by
  unfold modI
  have t1 := Int.lt_tmod_of_pos k (show 0 < n by omega)
  have t2 := Int.tmod_lt_of_pos k (show 0 < n by omega)
  have n0 : (n == 0) = false := by simp; omega
  by_cases h : 0 ≤ k
  · have e := Int.tmod_eq_emod_of_nonneg (b := n) h
    have e0 : 0 ≤ k % n := Int.emod_nonneg _ (by omega)
    rw [e] at t1 t2 ⊢
    rw [if_neg (by omega)]
    clear e
    go_enter Tryz.func16, Tryz.ntmps16
    go_wp2
    all_goals go_ret
    all_goals exact ⟨rfl, rfl⟩
  · go_enter Tryz.func16, Tryz.ntmps16
    go_wp2
    all_goals go_ret
    all_goals exact ⟨rfl, rfl⟩

/-- The tape is the block b: the numbers that it hands out lie in an older block; it stands at one of them. -/
def Tape (w : World) (b : Nat) : Prop :=
  ∃ (a : Option Addr) (len cap k : Nat), w.heap[b]? = some (.cells #[.slice a len cap, .int .i64 k] 65 (0, 0)) ∧ k ≤ len ∧ len ≤ 400 ∧
    (0 < len → ∃ x : Addr, a = some x ∧ x.block < b ∧ ∀ i, i < len → ∃ z : Int, w.cell? (x.add i) = some (.int .i64 z))

theorem Tape.lt {w : World} {b : Nat} (h : Tape w b) : b < w.heap.size := by
  obtain ⟨_, _, _, _, h, _⟩ := h
  exact lt_of_block h
theorem Tape.keep {w w' : World} {b : Nat} (h : Tape w b) (hk : ∀ i, i ≤ b → w'.heap[i]? = w.heap[i]?) : Tape w' b := by
  obtain ⟨a, len, cap, k, hb, h1, h2, h3⟩ := h
  refine ⟨a, len, cap, k, (hk b (Nat.le_refl _)).trans hb, h1, h2, fun hl => ?_⟩
  obtain ⟨x, ha, hx, hc⟩ := h3 hl
  refine ⟨x, ha, hx, fun i hi => ?_⟩
  obtain ⟨z, hz⟩ := hc i hi
  refine ⟨z, (World.cell?_of_block (w := w) (hk _ ?_)).trans hz⟩
  have : (x.add i).block = x.block := by unfold Addr.add; split <;> rfl
  omega
theorem Tape.below {w w' : World} {b : Nat} (h : Tape w b) (hb : Below w.heap.size w w') : Tape w' b :=
  h.keep fun i hi => hb.block i (Nat.lt_of_le_of_lt hi h.lt)
theorem Tape.drew {w : World} {b : Nat} (h : Tape w b) : Tape w.drew b := h
theorem Tape.drewN {w : World} {b : Nat} (h : Tape w b) (n : Nat) : Tape (w.drewN n) b := h
theorem Tape.alloc {w : World} {b : Nat} (h : Tape w b) (o : Obj) : Tape (w.alloc o) b := h.below ((Below.refl _ _).alloc (Nat.le_refl _) o)

/-- From w to w' only the tape's block b has turned, and what is new; the tape is a tape. -/
structure Steps1 (b : Nat) (w w' : World) : Prop where
  was : Tape w b
  grown : w.grownBy w' (some b)
  now : Tape w' b
theorem Steps1.refl {b : Nat} {w : World} (h : Tape w b) : Steps1 b w w := ⟨h, ⟨rfl, rfl, rfl, Nat.le_refl _, fun _ _ _ => rfl⟩, h⟩
theorem Steps1.lt {b : Nat} {w w' : World} (h : Steps1 b w w') : b < w.heap.size := h.was.lt
theorem Steps1.size {b : Nat} {w w' : World} (h : Steps1 b w w') : w.heap.size ≤ w'.heap.size := h.grown.size
theorem Steps1.trans {b : Nat} {w1 w2 w3 : World} (h : Steps1 b w1 w2) (k : Steps1 b w2 w3) : Steps1 b w1 w3 :=
  ⟨h.was, ⟨k.grown.os.trans h.grown.os, k.grown.tape.trans h.grown.tape, k.grown.output.trans h.grown.output, Nat.le_trans h.grown.size k.grown.size,
    fun i hi hn => (k.grown.block i (Nat.lt_of_lt_of_le hi h.grown.size) hn).trans (h.grown.block i hi hn)⟩, k.now⟩
theorem Steps1.of_below {b : Nat} {w w' : World} (h : Tape w b) (hb : Below w.heap.size w w') : Steps1 b w w' :=
  ⟨h, ⟨hb.os, hb.tape, hb.output, hb.size, fun i hi _ => hb.block i hi⟩, h.below hb⟩
theorem Steps1.drew {b : Nat} {w w' : World} (h : Steps1 b w w') : Steps1 b w w'.drew := ⟨h.was, ⟨h.grown.os, h.grown.tape, h.grown.output, h.grown.size, h.grown.block⟩, h.now⟩
theorem Steps1.drewN {b : Nat} {w w' : World} (h : Steps1 b w w') (n : Nat) : Steps1 b w (w'.drewN n) := ⟨h.was, ⟨h.grown.os, h.grown.tape, h.grown.output, h.grown.size, h.grown.block⟩, h.now⟩
section
variable {b : Nat} {a w w1 : World}
theorem sal (h : Steps1 b a w) (o : Obj) : Steps1 b a (w.alloc o) := h.trans (.of_below h.now ((Below.refl _ _).alloc (Nat.le_refl _) o))
theorem sdr (h : Steps1 b a w) : Steps1 b a w.drew := h.drew
theorem sdn (h : Steps1 b a w) (n : Nat) : Steps1 b a (w.drewN n) := h.drewN n
theorem sst (h : Steps1 b a w) (k o : Nat) (u : Value) (hk : a.heap.size ≤ k) : Steps1 b a (w.setCell ⟨k, o, none⟩ u) :=
  ⟨h.was, ⟨h.grown.os, h.grown.tape, h.grown.output, by simpa [World.setCell] using h.grown.size,
    fun i hi hn => (Below.heap_setCell w ⟨k, o, none⟩ u i (by show i ≠ k; omega)).trans (h.grown.block i hi hn)⟩,
    h.now.keep fun i hi => Below.heap_setCell w ⟨k, o, none⟩ u i (by show i ≠ k; have := h.lt; omega)⟩
theorem stb (h : Steps1 b a w) (k : Below w.heap.size w w1) : Steps1 b a w1 := h.trans (.of_below h.now k)
theorem sts (h : Steps1 b a w) (k : Steps1 b w w1) : Steps1 b a w1 := h.trans k
/-- A cell of another block behind a step of the tape. -/
theorem sc1 {k o : Nat} {v : Value} (hs : Steps1 b w w1) (h : w.cell? ⟨k, o, none⟩ = some v) (hne : k ≠ b) : w1.cell? ⟨k, o, none⟩ = some v :=
  (World.cell?_of_block (w := w) (hs.grown.block k (World.block_lt_of_cell? w _ h) (by simpa using hne))).trans h
theorem sf1 {k o : Nat} {v : Value} (hs : Steps1 b w w1) (h : w.cell? ⟨k, o, none⟩ = some v) (hf : w.frozen? ⟨k, o, none⟩ = false) (hne : k ≠ b) : w1.frozen? ⟨k, o, none⟩ = false :=
  (World.frozen?_of_block (w := w) (hs.grown.block k (World.block_lt_of_cell? w _ h) (by simpa using hne))).trans hf
/-- Steps of a tape that is the call's own leave what was there before the call as it was. -/
theorem bos {W : World} (hb : Below W.heap.size W w) (hk : W.heap.size ≤ b) (h : Steps1 b w w1) : Below W.heap.size W w1 :=
  hb.trans ⟨h.grown.os, h.grown.tape, h.grown.output, h.grown.size, fun i hi => h.grown.block i (Nat.lt_of_lt_of_le hi hb.size) (by simp; omega)⟩
end

/-- A number from 0 to n - 1, and a step of the tape. -/
def NextPost (b : Nat) (n : Int) (w : World) (e : Ending) (w' : World) : Prop := ∃ r : Int, 0 ≤ r ∧ r < n ∧ e = .returned (.int .i64 r) ∧ Steps1 b w w'

set_option maxHeartbeats 1000000 in
theorem next_any (b : Nat) (n : Int) (w : World) (hT : Tape w b) (h1 : 1 ≤ n) (h2 : n ≤ 1000000000000) :
    Calls Tryz.prog 10 #[.pointer (some ⟨b, 0, none⟩), .int .i64 n] w (NextPost b n w) := by
  have hT' := hT
  obtain ⟨a, len, cap, k, hb, hk, hl, hx⟩ := hT
  have c0 : w.cell? ⟨b, 0, none⟩ = some (.slice a len cap) := by simp [World.cell?, hb]
  have c1 : w.cell? ⟨b, 1, none⟩ = some (.int .i64 k) := by simp [World.cell?, hb]
  have f1 : w.frozen? ⟨b, 1, none⟩ = false := by simp [World.frozen?, hb]
  have TT := Lib.hid hT'
  have HB := Lib.hid hb
  clear hT' hb
  by_cases hlt : k < len
  · obtain ⟨x, rfl, hxb, hc⟩ := hx (by omega)
    obtain ⟨z, hz⟩ := hc k hlt
    obtain ⟨tb, off, spot⟩ := x
    have hspot : spot = none := by
      obtain ⟨z0, hz0⟩ := hc 0 (by omega)
      simpa [Addr.add] using World.cell?_spot hz0
    subst hspot
    have hz' : w.cell? ⟨tb, off + k, none⟩ = some (.int .i64 z) := by
      have e : Addr.add ⟨tb, off, none⟩ k = ⟨tb, off + k, none⟩ := by unfold Addr.add; split <;> simp_all
      rwa [e] at hz
    have hne : tb ≠ b := by have : tb < b := hxb; omega
    have hkk : (k : Int) < (len : Int) := by omega
    have hX := Lib.hid hc
    have hZ : (w.setCell ⟨b, 1, none⟩ (.int .i64 (k + 1))).cell? ⟨tb, off + k, none⟩ = some (.int .i64 z) := by
      rw [World.cell?_setCell_other _ _ _ _ (by intro e; injection e; omega)]; exact hz'
    clear hc hz
    go_enter Tryz.func10, Tryz.ntmps10
    go_wp2
    go_quiet (fail)
    go_wp2
    go_quiet ((go_at_call 16; exact Calls.quiet_of_same (mod_any _ _ _ h1 h2)))
    go_wp2
    go_ret
    refine ⟨modI z n, modI_lo _ _ h1, modI_hi _ _ h1, rfl, ?_⟩
    have hs : Steps1 b w (w.setCell ⟨b, 1, none⟩ (.int .i64 (k + 1))) := by
      refine ⟨TT.out, ⟨rfl, rfl, rfl, by simp [World.setCell], fun i _ hn => Below.heap_setCell _ _ _ _ (by simpa using hn)⟩, some ⟨tb, off, none⟩, len, cap, k + 1, ?_, hlt, hl, fun _ => ⟨_, rfl, hxb, fun i hi => ?_⟩⟩
      · have hlb := lt_of_block HB.out
        have hg : w.heap[b] = .cells #[.slice (some ⟨tb, off, none⟩) len cap, .int .i64 k] 65 (0, 0) := by simpa [Array.getElem?_eq_getElem hlb] using HB.out
        show (w.heap.modify b _)[b]? = _
        rw [Array.getElem?_eq_getElem (by simpa using hlb), Array.getElem_modify_self, hg]
        rfl
      · obtain ⟨z', hz''⟩ := hX.out i hi
        refine ⟨z', ?_⟩
        rw [World.cell?_setCell_other _ _ _ _ ?_]
        · exact hz''
        · intro e
          have e2 := congrArg Addr.block e
          have e3 : (Addr.add ⟨tb, off, none⟩ i).block = tb := by unfold Addr.add; split <;> rfl
          rw [e3] at e2
          exact hne e2.symm
    first | exact hs.drewN _ | exact hs.drew.drewN _ | exact (hs.drewN _).drewN _ | exact (hs.drewN _).drew
  · have hge : (len : Int) ≤ (k : Int) := by omega
    clear hx
    go_enter Tryz.func10, Tryz.ntmps10
    go_wp2
    go_quiet (fail)
    go_wp2
    go_ret
    exact ⟨0, by omega, by omega, rfl, (Steps1.refl TT.out).drewN _⟩
end Go.Proofs.YtglhenobodndjaaGreatDoor
