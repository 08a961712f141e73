/- The script's reader: lengths, regions. -/
import Derived.Test.YtglhenobodndjaaGreatDoorRdn
import Derived.Laws.MakeOwn
namespace Go.Proofs.YtglhenobodndjaaGreatDoor
open Go.RowKit
set_option linter.unusedVariables false
set_option linter.unusedSimpArgs false

def lenFail (f : Bool) (ws : List ByteArray) (r : Int × Bool) (most : Int) : Bool := ((f || ws.isEmpty) || !r.2) || !decide (r.1 ≤ most)
set_option maxHeartbeats 4000000 in
theorem rlength_any (w0 w : World) (rb nb : Nat) (ws : List ByteArray) (f : Bool) (r : Int × Bool) (y most : Int) (hw : Below w0.heap.size w0 w) (h : Rd w rb nb ws f) (hb : w0.heap.size ≤ rb) (hnb : nb < w.heap.size) (hd : NumAt w0 (wordAt ws 0) r) :
    Calls Tryz.prog 195 #[.pointer (some ⟨rb, 0, none⟩), .int .i64 y, .int .i64 most] w fun e w' => e = .returned (.int .i64 (if lenFail f ws r most then 0 else r.1)) ∧ Rd w' rb nb (ws.drop 1) (lenFail f ws r most) ∧ Kept (fun k => k = rb) w w' := by
  have HH := Lib.hid h; have HW := Lib.hid hw; have HD := Lib.hid hd
  have yr := h.lt
  have CON := Lib.hid (rnumber_any w0 (w.alloc (.cells #[.int .i64 0] 3)) rb nb w.heap.size 0 3 #[.int .i64 0] (.int .i64 0) ws f r (bal hw _) (h.behind (bal (Below.refl _ _) _)) hb (Blk.fresh rfl) rfl (by omega) (by omega) hd)
  clear h hw hd
  obtain ⟨x, ok⟩ := r
  have main : ∀ b, decide (x ≤ most) = b → ∀ g, ((f || ws.isEmpty) || !ok) = g → True := fun _ _ _ _ => trivial
  clear main
  obtain ⟨g, hg⟩ : ∃ g, ((f || ws.isEmpty) || !ok) = g := ⟨_, rfl⟩
  have HL : RowKit.Hid (lenFail f ws (x, ok) most = (g || !decide (x ≤ most))) := by show lenFail _ _ _ _ = _; unfold lenFail; rw [hg]
  dsimp only at CON
  rw [hg] at CON
  rw [HL.out]
  clear hg
  by_cases hx : x ≤ most
  · rw [decide_eq_true hx]
    cases g
    all_goals
      go_enter Tryz.func195, Tryz.ntmps195
      go_wp2_with (first
        | (go_at_call 196; refine CON.out.mono ?_; rintro e w1 ⟨rfl, hr1, hb1, hk1⟩; have n1 : w1.cell? ⟨w.heap.size, 0, none⟩ = some (.int .i64 x) := hb1.cell 0; have N1 := Lib.hid hb1; have R1 := Lib.hid hr1; have K1 := Lib.hid hk1; have yn := hb1.lt; clear hb1 hr1 hk1)
        | (go_at_call 194; refine (rcheck_any _ rb nb _ _ _ R1.out).mono ?_; rintro e w2 ⟨rfl, hr2, hk2⟩; have R2 := Lib.hid hr2; have K2 := Lib.hid hk2; have n2 : w2.cell? ⟨w.heap.size, 0, none⟩ = some (.int .i64 x) := cell_kept hk2 n1 (by omega); obtain ⟨off2, c2, hb2, -⟩ := hr2.ex; have q2 : w2.cell? ⟨rb, 1, none⟩ = some (.bool _) := hb2.cell 1; clear hr2 hk2 hb2))
      all_goals go_ret
      all_goals
        refine ⟨by simp_all, by simpa using R2.out, ?_⟩
        exact (((Kept.refl _ w).alloc _).trans K1.out fun i hi c => by rcases c with c | c <;> first | exact c | omega).trans K2.out fun _ _ c => c
  · rw [decide_eq_false hx]
    have d1 : decide (x ≤ most) = false := decide_eq_false hx
    cases g
    all_goals
      go_enter Tryz.func195, Tryz.ntmps195
      go_wp2_with (first
        | (go_at_call 196; refine CON.out.mono ?_; rintro e w1 ⟨rfl, hr1, hb1, hk1⟩; have n1 : w1.cell? ⟨w.heap.size, 0, none⟩ = some (.int .i64 x) := hb1.cell 0; have N1 := Lib.hid hb1; have R1 := Lib.hid hr1; have K1 := Lib.hid hk1; have yn := hb1.lt; clear hb1 hr1 hk1)
        | (go_at_call 194; refine (rcheck_any _ rb nb _ _ _ R1.out).mono ?_; rintro e w2 ⟨rfl, hr2, hk2⟩; have R2 := Lib.hid hr2; have K2 := Lib.hid hk2; have n2 : w2.cell? ⟨w.heap.size, 0, none⟩ = some (.int .i64 x) := cell_kept hk2 n1 (by omega); obtain ⟨off2, c2, hb2, -⟩ := hr2.ex; have q2 : w2.cell? ⟨rb, 1, none⟩ = some (.bool _) := hb2.cell 1; clear hr2 hk2 hb2))
      all_goals go_ret
      all_goals
        refine ⟨by simp_all, by simpa using R2.out, ?_⟩
        exact (((Kept.refl _ w).alloc _).trans K1.out fun i hi c => by rcases c with c | c <;> first | exact c | omega).trans K2.out fun _ _ c => c
/-- The zero cells of n rectangles. -/
def zeroRc (n : Nat) : List Value := List.replicate (4 * n) (.int .i64 0)
set_option maxHeartbeats 2000000 in
theorem sized_make (n c m : Nat) (a : Option Addr) (w : World) (h : n ≠ m) (hm : m ≤ 1000000) :
    Calls Tryz.prog 90 #[.slice a n c, .int .i64 m] w fun e w' => e = .returned (.slice (some ⟨w.heap.size, 0, none⟩) m m) ∧ Blk w' w.heap.size 73 (zeroRc m).toArray ∧ Below w.heap.size w w' := by
  have hne : ((n : Int) == (m : Int)) = false := by simp; omega
  obtain ⟨i0, hi, hz0, hz1, hz2⟩ := info_parts infoRc
  have hmk : ∀ W, (Instr.makeSlice 24 (.int .i64 (m : Int)) (.int .i64 (m : Int))).run Tryz.prog W = .ok (.slice (some ⟨W.heap.size, 0, none⟩) m m) (W.alloc (.cells (madeCells (Value.agg #[.int .i64 0, .int .i64 0, .int .i64 0, .int .i64 0]).cells (m * i0.size)) 73)) := fun W => by
    have hr := run_make (P := Tryz.prog) W 24 73 i0 _ Tryz.underlying24 hi hz0 .i64 .i64 (m : Int) (m : Int) (by omega) (by omega) (by rw [hz2]; omega) (by omega)
    simp only [Int.toNat_natCast] at hr
    exact hr
  rw [hz1] at hmk
  have ez : madeCells (Value.agg #[.int .i64 0, .int .i64 0, .int .i64 0, .int .i64 0]).cells (m * 4) = (zeroRc m).toArray := by
    unfold madeCells zeroRc
    apply Array.ext
    · simp; omega
    · intro i h1 h2
      simp at h1
      have h4 : i % 4 = 0 ∨ i % 4 = 1 ∨ i % 4 = 2 ∨ i % 4 = 3 := by omega
      rcases h4 with h4 | h4 | h4 | h4 <;> simp [Value.cells, h4]
  rw [ez] at hmk
  obtain ⟨zs, hzs⟩ : ∃ zs, (zeroRc m).toArray = zs := ⟨_, rfl⟩
  rw [hzs] at hmk ⊢
  clear ez hzs hi hz0 hz1 hz2
  go_enter Tryz.func90, Tryz.ntmps90
  go_wp2
  go_ret
  exact ⟨rfl, Blk.fresh rfl, (by (repeat (with_reducible first | exact Below.refl _ _ | refine bdr ?_ | refine bdn ?_ _ | refine bal ?_ _)))⟩
end Go.Proofs.YtglhenobodndjaaGreatDoor
/- The script's reader: regions. -/
namespace Go.Proofs.YtglhenobodndjaaGreatDoor
open Go.RowKit
set_option linter.unusedVariables false
set_option linter.unusedSimpArgs false

theorem wordAt_drop' (ws : List ByteArray) (a i : Nat) : wordAt (ws.drop a) i = wordAt ws (a + i) := by
  unfold wordAt; rw [List.getD_eq_getElem?_getD, List.getD_eq_getElem?_getD, List.getElem?_drop]
theorem rdFail_add (nv : ByteArray → Int × Bool) (ws : List ByteArray) (a b : Nat) : rdFail nv ws (a + b) = (rdFail nv ws a || rdFail nv (ws.drop a) b) := by
  unfold rdFail
  rw [List.range_add, List.any_append, List.any_map]
  have e : (List.range b).any ((fun i => !(nv (wordAt ws i)).2) ∘ fun x => a + x) = (List.range b).any fun i => !(nv (wordAt (ws.drop a) i)).2 := by
    congr 1; funext i; simp only [Function.comp]; rw [wordAt_drop']
  rw [e, List.length_drop]
  by_cases h1 : ws.length < a
  · have h2 : ws.length < a + b := by omega
    simp [h1, h2]
  · by_cases h2 : ws.length < a + b
    · have h3 : ws.length - a < b := by omega
      simp [h1, h2, h3]
    · have h3 : ¬ ws.length - a < b := by omega
      simp [h1, h2, h3, Bool.or_assoc]
/-- The numbers read as rectangles. -/
def rdRect (nv : ByteArray → Int × Bool) (ws : List ByteArray) (i : Nat) : Rc := ((nv (wordAt ws (4 * i))).1, (nv (wordAt ws (4 * i + 1))).1, (nv (wordAt ws (4 * i + 2))).1, (nv (wordAt ws (4 * i + 3))).1)
def rdRects (nv : ByteArray → Int × Bool) (ws : List ByteArray) (n : Nat) : List Rc := (List.range n).map (rdRect nv ws)
theorem rdRects_len (nv : ByteArray → Int × Bool) (ws : List ByteArray) (n : Nat) : (rdRects nv ws n).length = n := by simp [rdRects]
theorem rdRects_succ (nv : ByteArray → Int × Bool) (ws : List ByteArray) (n : Nat) : rdRects nv ws (n + 1) = rdRects nv ws n ++ [rdRect nv ws n] := by simp [rdRects, List.range_succ]
theorem rects_set (nv : ByteArray → Int × Bool) (ws : List ByteArray) (j n : Nat) (hj : j < n) :
    setNums (rcCells (rdRects nv ws j) ++ zeroRc (n - j)).toArray (rdVals nv (ws.drop (4 * j)) [j * 4, j * 4 + 1, j * 4 + 2, j * 4 + 3]) = (rcCells (rdRects nv ws (j + 1)) ++ zeroRc (n - (j + 1))).toArray := by
  have hl : (rcCells (rdRects nv ws j)).length = j * 4 := by rw [cellsOf_length encRc_len, rdRects_len]
  have hz : zeroRc (n - j) = [.int .i64 0, .int .i64 0, .int .i64 0, .int .i64 0] ++ zeroRc (n - (j + 1)) := by
    unfold zeroRc
    rw [show 4 * (n - j) = 4 + 4 * (n - (j + 1)) by omega, ← List.replicate_append_replicate]; rfl
  rw [rdRects_succ, rcCells_snoc, hz]
  obtain ⟨A, hA⟩ : ∃ A, rcCells (rdRects nv ws j) = A := ⟨_, rfl⟩
  obtain ⟨Z, hZ⟩ : ∃ Z, zeroRc (n - (j + 1)) = Z := ⟨_, rfl⟩
  rw [hA] at hl ⊢
  rw [hZ]
  simp only [rdVals, List.zipIdx_cons, List.zipIdx_nil, List.map_cons, List.map_nil, setNums, wordAt_drop', List.setIfInBounds_toArray]
  congr 1
  rw [← hl]
  simp only [List.set_append, encRc, rdRect, List.append_assoc]
  simp [hl, List.set_append, show ∀ k, 4 * j + k = 4 * j + k from fun _ => rfl]
end Go.Proofs.YtglhenobodndjaaGreatDoor
