/- What may turn: only some blocks, and what is new. -/
import Derived.Test.YtglhenobodndjaaGreatDoorRval
namespace Go.Proofs.YtglhenobodndjaaGreatDoor
open Go.RowKit
set_option linter.unusedVariables false

/-- From w to w' only the blocks of S have turned, and what is new. -/
structure Kept (S : Nat → Prop) (w w' : World) : Prop where
  os : w'.os = w.os
  tape : w'.tape = w.tape
  output : w'.output = w.output
  size : w.heap.size ≤ w'.heap.size
  block : ∀ k, k < w.heap.size → ¬ S k → w'.heap[k]? = w.heap[k]?
section
variable {S T : Nat → Prop} {w w1 w2 : World}
theorem Kept.refl (S : Nat → Prop) (w : World) : Kept S w w := ⟨rfl, rfl, rfl, Nat.le_refl _, fun _ _ _ => rfl⟩
theorem Kept.trans (h : Kept S w w1) (k : Kept T w1 w2) (hT : ∀ i, i < w.heap.size → T i → S i) : Kept S w w2 :=
  ⟨k.os.trans h.os, k.tape.trans h.tape, k.output.trans h.output, Nat.le_trans h.size k.size, fun i hi hn => (k.block i (Nat.lt_of_lt_of_le hi h.size) fun c => hn (hT i hi c)).trans (h.block i hi hn)⟩
theorem Kept.mono (h : Kept S w w1) (hT : ∀ i, i < w.heap.size → S i → T i) : Kept T w w1 := ⟨h.os, h.tape, h.output, h.size, fun i hi hn => h.block i hi fun c => hn (hT i hi c)⟩
theorem Kept.below (h : Below w.heap.size w w1) : Kept S w w1 := ⟨h.os, h.tape, h.output, h.size, fun i hi _ => h.block i hi⟩
theorem Kept.toBelow {B : Nat} (h : Kept S w w1) (hB : B ≤ w.heap.size) (hS : ∀ i, i < B → ¬ S i) : Below B w w1 := ⟨h.os, h.tape, h.output, h.size, fun i hi => h.block i (by omega) (hS i hi)⟩
theorem Kept.blk {g : Nat} {t : TypeId} {cs : Array Value} (h : Kept S w w1) (hb : Blk w g t cs) (hn : ¬ S g) : Blk w1 g t cs := (h.block g hb.lt hn).trans hb
theorem Kept.own {base n k : Nat} {e : TypeId} {v : Value} {xs : List Value} (h : Kept S w w1) (ho : w.ownsRow base e k v n xs) (hn : ∀ g, v.ownBlock = some g → ¬ S g) : w1.ownsRow base e k v n xs := by
  rcases ho.2 with h0 | ⟨g, cap, cur, hv, hb, hg, r⟩
  · exact ⟨ho.1, .inl h0⟩
  · exact ⟨ho.1, .inr ⟨g, cap, cur, hv, hb, (h.block g (lt_of_block hg) (hn g (by rw [hv]; rfl))).trans hg, r⟩⟩
theorem Kept.vw {a : Option Addr} {xs : List Value} (h : Kept S w w1) (hv : Vw w a xs) (hn : ∀ b off, a = some ⟨b, off, none⟩ → ¬ S b) : Vw w1 a xs := fun i v hi => by
  obtain ⟨b, off, e, hc⟩ := hv i v hi
  exact ⟨b, off, e, (World.cell?_of_block (w := w) (a := ⟨b, off + i, none⟩) (h.block b (World.block_lt_of_cell? w _ hc) (hn b off e))).trans hc⟩
theorem Kept.set {g o : Nat} {v : Value} (h : Kept S w w1) (hg : S g) : Kept S w (w1.setCell ⟨g, o, none⟩ v) :=
  ⟨h.os, h.tape, h.output, by simpa [World.setCell] using h.size, fun i hi hn => (Below.heap_setCell w1 ⟨g, o, none⟩ v i (by intro c; exact hn (c ▸ hg))).trans (h.block i hi hn)⟩
theorem Kept.drewN (h : Kept S w w1) (n : Nat) : Kept S w (w1.drewN n) := ⟨h.os, h.tape, h.output, h.size, h.block⟩
theorem Kept.drew (h : Kept S w w1) : Kept S w w1.drew := ⟨h.os, h.tape, h.output, h.size, h.block⟩
theorem Kept.alloc (h : Kept S w w1) (o : Obj) : Kept S w (w1.alloc o) := ⟨h.os, h.tape, h.output, by simp; have := h.size; omega, fun i hi hn => (Below.heap_alloc w1 o i (Nat.lt_of_lt_of_le hi h.size)).trans (h.block i hi hn)⟩
theorem Kept.behind (h : Kept S w w1) (k : Below w1.heap.size w1 w2) : Kept S w w2 := h.trans (Kept.below (S := S) k) fun _ _ c => c
end
theorem below_kept {S : Nat → Prop} {w0 w w' : World} (hw : Below w0.heap.size w0 w) (hk : Kept S w w') (hS : ∀ k, S k → w0.heap.size ≤ k) : Below w0.heap.size w0 w' :=
  hw.trans (hk.toBelow hw.size fun i hi c => by have := hS i c; omega)
theorem shaped_below {P : Program} {w w' : World} (h : w.ShapedOpen P) (hb : Below w.heap.size w w') : w'.ShapedOpen P := h.keptBut (hb.frame fun _ => False) fun _ h => h.elim
/-- Words in memory: strings. -/
abbrev strCells (l : List ByteArray) : List Value := l.map Value.string
theorem oneC_str (l : List ByteArray) : OneC (strCells l) := fun u hu => by
  obtain ⟨x, _, rfl⟩ := List.mem_map.1 hu; rfl
theorem infoStr : (Tryz.prog.info? 9).map (fun i => (i.zero, i.size, i.bytes)) = some (some (.string ⟨#[]⟩), 1, 16) := by kernel_rfl
theorem elStr : ElT Tryz.prog 49 9 1 16 := .mk' Tryz.underlying49 infoStr rfl (by decide) (by decide)
/-- The decimal text of a number is handed back. -/
def DecAt (w : World) (x : Int) (s : ByteArray) : Prop := ∀ W : World, Below w.heap.size w W → Calls Tryz.prog 193 #[.int .i64 x] W fun e w' => e = .returned (.string s) ∧ Below W.heap.size W w'
theorem DecAt.below {w w' : World} {x : Int} {s : ByteArray} (h : DecAt w x s) (hb : Below w.heap.size w w') : DecAt w' x s := fun W hW => h W (btr hb hW)
set_option maxHeartbeats 1000000 in
theorem dec_small (w : World) (i : Nat) (hi : i < 100) : DecAt w i ⟨(Lib.decDigits i).toArray⟩ := fun W hW => by
  have hcon := fun W' => Tryz.strconv_Itoa_small i hi W'
  generalize (Lib.decDigits i).toArray = s at hcon ⊢
  have H := Lib.hid hcon
  clear hcon
  go_enter Tryz.func193, Tryz.ntmps193
  go_wp2_with (go_at_call 76; refine (H.out _).mono ?_; rintro e w' ⟨rfl, rfl⟩)
  go_ret
  exact ⟨rfl, Below.refl _ _⟩
end Go.Proofs.YtglhenobodndjaaGreatDoor
