/- The script's reader of words. -/
import Derived.Test.YtglhenobodndjaaGreatDoorWra
namespace Go.Proofs.YtglhenobodndjaaGreatDoor
open Go.RowKit
set_option linter.unusedVariables false
set_option linter.unusedSimpArgs false

/-- The reader in block rb: its words lie in block nb. -/
structure Rd (w : World) (rb nb : Nat) (ws : List ByteArray) (f : Bool) : Prop where
  ex : ∃ off c : Nat, Blk w rb 99 #[.slice (some ⟨nb, off, none⟩) ws.length c, .bool f] ∧ (∀ i s, ws[i]? = some s → w.cell? ⟨nb, off + i, none⟩ = some (.string s)) ∧ ws.length ≤ c ∧ c ≤ 1000000000
  ne : nb ≠ rb
theorem Rd.lt {w : World} {rb nb : Nat} {ws : List ByteArray} {f : Bool} (h : Rd w rb nb ws f) : rb < w.heap.size := by
  obtain ⟨⟨_, _, h, _⟩, _⟩ := h; exact h.lt
theorem Rd.kept {S : Nat → Prop} {w w' : World} {rb nb : Nat} {ws : List ByteArray} {f : Bool} (h : Rd w rb nb ws f) (hk : Kept S w w') (h1 : ¬ S rb) (h2 : ¬ S nb) : Rd w' rb nb ws f := by
  obtain ⟨⟨off, c, hb, hc, hl⟩, hn⟩ := h
  exact ⟨⟨off, c, hk.blk hb h1, fun i s hi => cell_kept hk (hc i s hi) h2, hl⟩, hn⟩
theorem Rd.behind {w w' : World} {rb nb : Nat} {ws : List ByteArray} {f : Bool} (h : Rd w rb nb ws f) (hb : Below w.heap.size w w') : Rd w' rb nb ws f := h.kept (S := fun _ => False) (Kept.below hb) (fun c => c) (fun c => c)
def noWord : ByteArray := ⟨#[]⟩
def wordAt (ws : List ByteArray) (i : Nat) : ByteArray := ws.getD i noWord
theorem Rd.set1 {w : World} {rb nb : Nat} {ws : List ByteArray} {f g : Bool} (h : Rd w rb nb ws f) : Rd (w.setCell ⟨rb, 1, none⟩ (.bool g)) rb nb ws g := by
  obtain ⟨⟨off, c, hb, hc, hl⟩, hn⟩ := h
  refine ⟨⟨off, c, hb.put 1 _, fun i s hi => ?_, hl⟩, hn⟩
  exact cell_kept (S := fun k => k = rb) ((Kept.refl _ w).set rfl) (hc i s hi) hn
set_option maxHeartbeats 2000000 in
theorem rcheck_any (w : World) (rb nb : Nat) (ws : List ByteArray) (f ok : Bool) (h : Rd w rb nb ws f) :
    Calls Tryz.prog 194 #[.pointer (some ⟨rb, 0, none⟩), .bool ok] w fun e w' => e = .returned (.tuple #[]) ∧ Rd w' rb nb ws (f || !ok) ∧ Kept (fun k => k = rb) w w' := by
  obtain ⟨off, c, hb, -, -⟩ := h.ex
  have x1 : w.cell? ⟨rb, 1, none⟩ = some (.bool f) := hb.cell 1
  have x2 : w.frozen? ⟨rb, 1, none⟩ = false := hb.free 1
  have y0 := hb.lt
  have fin : ∀ g : Bool, g = (f || !ok) → Rd (w.setCell ⟨rb, 1, none⟩ (.bool g)) rb nb ws (f || !ok) ∧ Kept (fun k => k = rb) w (w.setCell ⟨rb, 1, none⟩ (.bool g)) := fun g hg => by
    rw [← hg]; exact ⟨h.set1, (Kept.refl _ w).set rfl⟩
  have FIN := Lib.hid fin
  clear fin h hb
  cases f <;> cases ok <;>
  · go_enter Tryz.func194, Tryz.ntmps194
    go_wp2
    go_end0
    exact ⟨rfl, FIN.out _ rfl⟩
set_option maxHeartbeats 2000000 in
theorem rtake_any (w : World) (rb nb : Nat) (ws : List ByteArray) (f : Bool) (h : Rd w rb nb ws f) :
    Calls Tryz.prog 199 #[.pointer (some ⟨rb, 0, none⟩)] w fun e w' => e = .returned (.string (wordAt ws 0)) ∧ Rd w' rb nb (ws.drop 1) (f || ws.isEmpty) ∧ Kept (fun k => k = rb) w w' := by
  obtain ⟨off, c, hb, hc, hl, hm⟩ := h.ex
  have x0 : w.cell? ⟨rb, 0, none⟩ = some (.slice (some ⟨nb, off, none⟩) ws.length c) := hb.cell 0
  have x2 : w.frozen? ⟨rb, 0, none⟩ = false := hb.free 0
  have x1 : w.cell? ⟨rb, 1, none⟩ = some (.bool f) := hb.cell 1
  have x3 : w.frozen? ⟨rb, 1, none⟩ = false := hb.free 1
  have y0 := hb.lt
  cases ws with
  | nil =>
    have H := Lib.hid h
    clear h hb hc
    go_enter Tryz.func199, Tryz.ntmps199
    go_wp2
    go_ret
    exact ⟨rfl, by simpa using H.out.set1 (g := true), (Kept.refl _ w).set rfl⟩
  | cons s rest =>
    have hc0 : w.cell? ⟨nb, off, none⟩ = some (.string s) := hc 0 s rfl
    have HC := Lib.hid hc; have HB := Lib.hid hb; have NE := Lib.hid h.ne
    clear h hc hb
    obtain ⟨n, hn⟩ : ∃ n, rest.length = n := ⟨_, rfl⟩
    have el : (s :: rest).length = n + 1 := by simp [hn]
    rw [el] at x0 hl HB
    have HN := Lib.hid hn
    clear el hn
    by_cases hc1 : c = 1
    · subst hc1
      obtain rfl : n = 0 := by omega
      go_enter Tryz.func199, Tryz.ntmps199
      go_wp2
      go_ret
      refine ⟨rfl, ⟨⟨off, 0, ?_, ?_, ?_, by omega⟩, NE.out⟩, (Kept.refl _ w).set rfl⟩
      · have := HB.out.put 0 (.slice (some ⟨nb, off, none⟩) 0 0)
        have e2 : (List.drop 1 (s :: rest)).length = 0 := by simpa using HN.out
        rw [e2]; simpa using this
      · intro i t hi
        have : rest = [] := List.eq_nil_of_length_eq_zero HN.out
        subst this
        simp at hi
      · simpa using Nat.le_of_eq HN.out
    · have hc2 : ¬ (1 : Nat) = c := by omega
      have hc3 : 1 < c := by omega
      go_enter Tryz.func199, Tryz.ntmps199
      go_wp2
      go_ret
      refine ⟨rfl, ⟨⟨off + 1, c - 1, ?_, ?_, ?_, by omega⟩, NE.out⟩, (Kept.refl _ w).set rfl⟩
      · have := HB.out.put 0 (.slice (some ⟨nb, off + 1, none⟩) n (c - 1))
        have e2 : (List.drop 1 (s :: rest)).length = n := by simpa using HN.out
        rw [e2]; simpa using this
      · intro i t hi
        have h1 := HC.out (i + 1) t (by simpa using hi)
        rw [show off + 1 + i = off + (i + 1) by omega]
        exact cell_kept (S := fun k => k = rb) ((Kept.refl _ w).set rfl) h1 NE.out
      · have e2 : (List.drop 1 (s :: rest)).length = n := by simpa using HN.out
        rw [e2]; omega
end Go.Proofs.YtglhenobodndjaaGreatDoor
