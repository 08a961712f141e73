/- Words for memory: blocks of the call's own, and what keeps them. -/
import Derived.Test.YtglhenobodndjaaGreatDoorTapeb
namespace Go.Proofs.YtglhenobodndjaaGreatDoor
open Go.RowKit

/-- Block g is just the cells cs of the type t, none frozen. -/
def Blk (w : World) (g : Nat) (t : TypeId) (cs : Array Value) : Prop := w.heap[g]? = some (.cells cs t (0, 0))

section
variable {w w' : World} {g b : Nat} {t : TypeId} {cs : Array Value}
theorem Blk.lt (h : Blk w g t cs) : g < w.heap.size := lt_of_block h
theorem Blk.cell (h : Blk w g t cs) (i : Nat) : w.cell? ⟨g, i, none⟩ = cs[i]? := cell_of_row w g i cs t (0, 0) h
theorem Blk.free (h : Blk w g t cs) (i : Nat) : w.frozen? ⟨g, i, none⟩ = false := by
  unfold Blk at h
  simp [World.frozen?, h]
theorem Blk.new (w : World) (t : TypeId) (cs : Array Value) : Blk (w.alloc (.cells cs t)) w.heap.size t cs := heap_alloc_new w _
theorem Blk.drew (h : Blk w g t cs) : Blk w.drew g t cs := h
theorem Blk.drewN (h : Blk w g t cs) (n : Nat) : Blk (w.drewN n) g t cs := h
theorem Blk.alloc (h : Blk w g t cs) (o : Obj) : Blk (w.alloc o) g t cs := (Below.heap_alloc w o g h.lt).trans h
theorem Blk.put (h : Blk w g t cs) (i : Nat) (u : Value) : Blk (w.setCell ⟨g, i, none⟩ u) g t (cs.setIfInBounds i u) := by
  unfold Blk at h ⊢
  simp [World.setCell, Array.getElem?_modify, h]
theorem Blk.far (h : Blk w g t cs) (k o : Nat) (u : Value) (hk : g ≠ k) : Blk (w.setCell ⟨k, o, none⟩ u) g t cs := (Below.heap_setCell w ⟨k, o, none⟩ u g hk).trans h
theorem Blk.below (h : Blk w g t cs) (hb : Below w.heap.size w w') : Blk w' g t cs := (hb.block g h.lt).trans h
theorem Blk.step (h : Blk w g t cs) (hs : Steps1 b w w') (hg : g ≠ b) : Blk w' g t cs := (hs.grown.block g h.lt (by simpa using hg)).trans h
end
theorem Blk.fresh {w : World} {g : Nat} {t : TypeId} {cs : Array Value} (h : g = w.heap.size) : Blk (w.alloc (.cells cs t)) g t cs := h ▸ Blk.new w t cs
theorem Blk.put3 {w : World} {g : Nat} {t : TypeId} {cs cs' : Array Value} {v0 v1 v2 : Value} (h : Blk w g t cs) (e : ((cs.setIfInBounds 0 v0).setIfInBounds 1 v1).setIfInBounds 2 v2 = cs') :
    Blk (((w.setCell ⟨g, 0, none⟩ v0).setCell ⟨g, 1, none⟩ v1).setCell ⟨g, 2, none⟩ v2) g t cs' := e ▸ ((h.put 0 _).put 1 _).put 2 _
/-- These cells of block g hold these values; there is one. -/
def Cs (w : World) (g : Nat) (cs : List Value) : Prop := 0 < cs.length ∧ ∀ i v, cs[i]? = some v → w.cell? ⟨g, i, none⟩ = some v
section
variable {w wx : World} {g : Nat} {cs : List Value}
theorem Cs.cell (h : Cs w g cs) (i : Nat) {v : Value} (e : cs[i]? = some v := by rfl) : w.cell? ⟨g, i, none⟩ = some v := h.2 i v e
theorem Cs.lt (h : Cs w g cs) : g < w.heap.size := by
  obtain ⟨h0, hc⟩ := h
  exact World.block_lt_of_cell? w _ (hc 0 _ (List.getElem?_eq_getElem h0))
theorem Cs.below (h : Cs w g cs) (hb : Below w.heap.size w wx) : Cs wx g cs := ⟨h.1, fun i v e => bc1 hb (h.2 i v e)⟩
theorem Cs.drew (h : Cs w g cs) : Cs w.drew g cs := h
theorem Cs.alloc (h : Cs w g cs) (o : Obj) : Cs (w.alloc o) g cs := h.below ((Below.refl _ _).alloc (Nat.le_refl _) o)
theorem Cs.far (h : Cs w g cs) (k o : Nat) (u : Value) (hk : g ≠ k) : Cs (w.setCell ⟨k, o, none⟩ u) g cs :=
  ⟨h.1, fun i v e => (World.cell?_of_block (w := w) (a := ⟨g, i, none⟩) (Below.heap_setCell w ⟨k, o, none⟩ u g hk)).trans (h.2 i v e)⟩
theorem Cs.of2 {a b : Value} (h0 : w.cell? ⟨g, 0, none⟩ = some a) (h1 : w.cell? ⟨g, 1, none⟩ = some b) : Cs w g [a, b] := ⟨by simp, fun i v e => by
  match i, e with
  | 0, e => cases e; exact h0
  | 1, e => cases e; exact h1⟩
theorem Cs.of3 {a b c : Value} (h0 : w.cell? ⟨g, 0, none⟩ = some a) (h1 : w.cell? ⟨g, 1, none⟩ = some b) (h2 : w.cell? ⟨g, 2, none⟩ = some c) : Cs w g [a, b, c] := ⟨by simp, fun i v e => by
  match i, e with
  | 0, e => cases e; exact h0
  | 1, e => cases e; exact h1
  | 2, e => cases e; exact h2⟩
end
/-- Block g begins with n integers. -/
def IB (w : World) (g n : Nat) : Prop := ∃ (t : TypeId) (cs : Array Value), Blk w g t cs ∧ ∀ j, j < n → ∃ z : Int, cs[j]? = some (.int .i64 z)
section
variable {w wx wy : World} {g n : Nat}
theorem IB.lt (h : IB w g n) : g < w.heap.size := by obtain ⟨t, cs, hb, _⟩ := h; exact hb.lt
theorem IB.below (h : IB w g n) (hb : Below w.heap.size w wx) : IB wx g n := by obtain ⟨t, cs, h1, h2⟩ := h; exact ⟨t, cs, h1.below hb, h2⟩
theorem IB.drew (h : IB w g n) : IB w.drew g n := h
theorem IB.far (h : IB w g n) (k o : Nat) (u : Value) (hk : g ≠ k) : IB (w.setCell ⟨k, o, none⟩ u) g n := by obtain ⟨t, cs, h1, h2⟩ := h; exact ⟨t, cs, h1.far _ _ _ hk, h2⟩
theorem IB.put (h : IB w g n) (o : Nat) (z : Int) : IB (w.setCell ⟨g, o, none⟩ (.int .i64 z)) g n := by
  obtain ⟨t, cs, h1, h2⟩ := h
  refine ⟨t, _, h1.put o _, fun j hj => ?_⟩
  obtain ⟨y, hy⟩ := h2 j hj
  by_cases e : o = j
  · subst e
    refine ⟨z, ?_⟩
    have := (Array.getElem?_eq_some_iff.1 hy).1
    simp [this]
  · exact ⟨y, by rw [Array.getElem?_setIfInBounds_ne e]; exact hy⟩
theorem IB.at_ (h : IB w g n) (j : Nat) (hj : j < n) : ∃ z : Int, w.cell? ⟨g, j, none⟩ = some (.int .i64 z) ∧ w.frozen? ⟨g, j, none⟩ = false := by
  obtain ⟨t, cs, h1, h2⟩ := h
  obtain ⟨z, hz⟩ := h2 j hj
  exact ⟨z, (h1.cell j).trans hz, h1.free j⟩
theorem IB.of2 {t : TypeId} {a b : Int} (h : Blk w g t #[.int .i64 a, .int .i64 b]) : IB w g 2 := ⟨t, _, h, fun j hj => by
  match j, hj with
  | 0, _ => exact ⟨a, rfl⟩
  | 1, _ => exact ⟨b, rfl⟩⟩
theorem IB.of3 {t : TypeId} {a b c : Int} (h : Blk w g t #[.int .i64 a, .int .i64 b, .int .i64 c]) : IB w g 3 := ⟨t, _, h, fun j hj => by
  match j, hj with
  | 0, _ => exact ⟨a, rfl⟩
  | 1, _ => exact ⟨b, rfl⟩
  | 2, _ => exact ⟨c, rfl⟩⟩
theorem IB.of12 {t : TypeId} {a b c d e f g' h i j k l : Int} (H : Blk w g t #[.int .i64 a, .int .i64 b, .int .i64 c, .int .i64 d, .int .i64 e, .int .i64 f, .int .i64 g', .int .i64 h, .int .i64 i, .int .i64 j, .int .i64 k, .int .i64 l]) : IB w g 12 := ⟨t, _, H, fun n hn => by
  match n, hn with
  | 0, _ => exact ⟨a, rfl⟩
  | 1, _ => exact ⟨b, rfl⟩
  | 2, _ => exact ⟨c, rfl⟩
  | 3, _ => exact ⟨d, rfl⟩
  | 4, _ => exact ⟨e, rfl⟩
  | 5, _ => exact ⟨f, rfl⟩
  | 6, _ => exact ⟨g', rfl⟩
  | 7, _ => exact ⟨h, rfl⟩
  | 8, _ => exact ⟨i, rfl⟩
  | 9, _ => exact ⟨j, rfl⟩
  | 10, _ => exact ⟨k, rfl⟩
  | 11, _ => exact ⟨l, rfl⟩⟩
theorem IB.of4 {t : TypeId} {a b c d : Int} (h : Blk w g t #[.int .i64 a, .int .i64 b, .int .i64 c, .int .i64 d]) : IB w g 4 := ⟨t, _, h, fun j hj => by
  match j, hj with
  | 0, _ => exact ⟨a, rfl⟩
  | 1, _ => exact ⟨b, rfl⟩
  | 2, _ => exact ⟨c, rfl⟩
  | 3, _ => exact ⟨d, rfl⟩⟩
end
/-- The world while the law runs: what was there before it is as it was, and these blocks, all below hi, hold integers. -/
structure Al (w : World) (hi : Nat) (gs : List (Nat × Nat)) (wx : World) : Prop where
  below : Below w.heap.size w wx
  lo : w.heap.size ≤ hi
  le : hi ≤ wx.heap.size
  ib : ∀ p, p ∈ gs → p.1 < hi ∧ IB wx p.1 p.2
section
variable {w wx wy : World} {hi hj : Nat} {gs fs : List (Nat × Nat)}
theorem Al.step (h : Al w hi gs wx) (hb : Below wx.heap.size wx wy) : Al w hi gs wy := ⟨btr h.below hb, h.lo, Nat.le_trans h.le hb.size, fun p hp => ⟨(h.ib p hp).1, (h.ib p hp).2.below hb⟩⟩
theorem Al.drew (h : Al w hi gs wx) : Al w hi gs wx.drew := ⟨bdr h.below, h.lo, h.le, h.ib⟩
theorem Al.alloc (h : Al w hi gs wx) (o : Obj) : Al w hi gs (wx.alloc o) := h.step ((Below.refl _ _).alloc (Nat.le_refl _) o)
theorem Al.far (h : Al w hi gs wx) (k o : Nat) (u : Value) (hk : hi ≤ k) : Al w hi gs (wx.setCell ⟨k, o, none⟩ u) :=
  ⟨bst h.below _ _ _ (Nat.le_trans h.lo hk), h.lo, by simpa [World.setCell] using h.le, fun p hp => ⟨(h.ib p hp).1, (h.ib p hp).2.far _ _ _ (by have := (h.ib p hp).1; omega)⟩⟩
theorem Al.less (h : Al w hi gs wx) (hs : ∀ p, p ∈ fs → p ∈ gs) : Al w hi fs wx := ⟨h.below, h.lo, h.le, fun p hp => h.ib p (hs p hp)⟩
theorem Al.lower (h : Al w hi gs wx) (hs : ∀ p, p ∈ fs → p ∈ gs) (hp : (∀ p, p ∈ fs → p.1 < hj) ∧ w.heap.size ≤ hj) (hl : hj ≤ hi) : Al w hj fs wx :=
  ⟨h.below, hp.2, Nat.le_trans hl h.le, fun p hq => ⟨hp.1 p hq, (h.ib p (hs p hq)).2⟩⟩
theorem Al.bound (h : Al w hi gs wx) : (∀ p, p ∈ gs → p.1 < hi) ∧ w.heap.size ≤ hi := ⟨fun p hp => (h.ib p hp).1, h.lo⟩
theorem Al.more {g n : Nat} (h : Al w hi gs wx) (hg : IB wx g n) (h1 : hi ≤ hj) (h2 : hj ≤ wx.heap.size) (h3 : g < hj) : Al w hj ((g, n) :: gs) wx :=
  ⟨h.below, Nat.le_trans h.lo h1, h2, fun p hp => by
    rcases List.mem_cons.1 hp with rfl | hp
    · exact ⟨h3, hg⟩
    · exact ⟨Nat.lt_of_lt_of_le (h.ib p hp).1 h1, (h.ib p hp).2⟩⟩
theorem Al.put {g n : Nat} (h : Al w hi gs wx) (hg : (g, n) ∈ gs) (o : Nat) (z : Int) (hw : w.heap.size ≤ g) : Al w hi gs (wx.setCell ⟨g, o, none⟩ (.int .i64 z)) :=
  ⟨bst h.below _ _ _ hw, h.lo, by simpa [World.setCell] using h.le, fun p hp => ⟨(h.ib p hp).1, by
    by_cases e : p.1 = g
    · rw [e]; have := (h.ib p hp).2; rw [e] at this; exact this.put o z
    · exact (h.ib p hp).2.far _ _ _ e⟩⟩
theorem Al.at_ {g n : Nat} (h : Al w hi gs wx) (hg : (g, n) ∈ gs) (j : Nat) (hj : j < n) : ∃ z : Int, wx.cell? ⟨g, j, none⟩ = some (.int .i64 z) ∧ wx.frozen? ⟨g, j, none⟩ = false := (h.ib _ hg).2.at_ j hj
theorem Al.lt {g n : Nat} (h : Al w hi gs wx) (hg : (g, n) ∈ gs) : g < wx.heap.size := Nat.lt_of_lt_of_le (h.ib _ hg).1 h.le
end

end Go.Proofs.YtglhenobodndjaaGreatDoor
