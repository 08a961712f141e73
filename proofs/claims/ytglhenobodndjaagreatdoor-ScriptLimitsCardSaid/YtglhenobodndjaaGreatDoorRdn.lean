/- The script's reader: numbers. -/
import Derived.Test.YtglhenobodndjaaGreatDoorRd
namespace Go.Proofs.YtglhenobodndjaaGreatDoor
open Go.RowKit
set_option linter.unusedVariables false
set_option linter.unusedSimpArgs false

/-- A word read as a number. -/
def NumAt (w0 : World) (s : ByteArray) (r : Int × Bool) : Prop := ∀ W : World, Below w0.heap.size w0 W → Calls Tryz.prog 198 #[.string s, .int .i64 0, .int .i64 1125899906842624] W fun e w' => e = .returned (.tuple #[.int .i64 r.1, .bool r.2]) ∧ Below W.heap.size W w'
set_option maxHeartbeats 2000000 in
theorem rnumber_any (w0 w : World) (rb nb tb tf : Nat) (T : TypeId) (cs : Array Value) (old : Value) (ws : List ByteArray) (f : Bool) (r : Int × Bool) (hw : Below w0.heap.size w0 w) (h : Rd w rb nb ws f) (hb : w0.heap.size ≤ rb) (ht : Blk w tb T cs) (hto : cs[tf]? = some old) (h1 : tb ≠ rb) (h2 : tb ≠ nb) (hd : NumAt w0 (wordAt ws 0) r) :
    Calls Tryz.prog 196 #[.pointer (some ⟨rb, 0, none⟩), .pointer (some ⟨tb, tf, none⟩)] w fun e w' => e = .returned (.tuple #[]) ∧ Rd w' rb nb (ws.drop 1) ((f || ws.isEmpty) || !r.2) ∧ Blk w' tb T (cs.setIfInBounds tf (.int .i64 r.1)) ∧ Kept (fun k => k = rb ∨ k = tb) w w' := by
  have HH := Lib.hid h; have HW := Lib.hid hw; have HT := Lib.hid ht; have HTO := Lib.hid hto; have HD := Lib.hid hd
  have HCT := Lib.hid (rtake_any w rb nb ws f h)
  obtain ⟨x, ok⟩ := r
  clear h hw ht hto hd
  go_enter Tryz.func196, Tryz.ntmps196
  go_wp2_with (first
    | (go_at_call 199; refine HCT.out.mono ?_; rintro e w1 ⟨rfl, hr1, hk1⟩; have R1 := Lib.hid hr1; have K1 := Lib.hid hk1; have B1 := Lib.hid (below_kept HW.out hk1 (fun k hk => by rw [hk]; exact hb)); clear hr1 hk1)
    | (go_at_call 198; refine (HD.out _ B1.out).mono ?_; rintro e w2 ⟨rfl, hb2⟩; have R2 := Lib.hid (R1.out.behind hb2); have K2 := Lib.hid (K1.out.behind hb2); clear hb2)
    | (go_at_call 194; refine (rcheck_any _ rb nb _ _ _ R2.out).mono ?_; rintro e w3 ⟨rfl, hr3, hk3⟩; have R3 := Lib.hid hr3; have K3 := Lib.hid (K2.out.trans hk3 fun _ _ c => c); have T3 := Lib.hid (K3.out.blk HT.out h1); have t3 : w3.cell? ⟨tb, tf, none⟩ = some old := (T3.out.cell tf).trans HTO.out; have f3 := T3.out.free tf; have y3 := T3.out.lt; clear hr3 hk3))
  go_end0
  exact ⟨rfl, R3.out.kept (S := fun k => k = tb) ((Kept.refl _ w3).set rfl) h1.symm h2.symm, T3.out.put tf _, (K3.out.mono fun i _ hi => .inl hi).set (.inr rfl)⟩
/-- Cells laid one after the other. -/
def setNums (cs : Array Value) : List (Nat × Int) → Array Value
  | [] => cs
  | p :: l => setNums (cs.setIfInBounds p.1 (.int .i64 p.2)) l
theorem setNums_snoc (cs : Array Value) (l : List (Nat × Int)) (p : Nat × Int) : setNums cs (l ++ [p]) = (setNums cs l).setIfInBounds p.1 (.int .i64 p.2) := by
  induction l generalizing cs with
  | nil => rfl
  | cons q l ih => simp only [List.cons_append, setNums]; exact ih _
theorem setNums_size (cs : Array Value) (l : List (Nat × Int)) : (setNums cs l).size = cs.size := by
  induction l generalizing cs with
  | nil => rfl
  | cons q l ih => simp only [setNums]; rw [ih]; simp
theorem meth_rnumber (a : Addr) (w : World) : (method 364 98 (.pointer (some a)) "landaid/script.number").run Tryz.prog w = .ok (196, .pointer (some a)) w := by kernel_rfl
/-- n words read as numbers. -/
def rdFail (nv : ByteArray → Int × Bool) (ws : List ByteArray) (n : Nat) : Bool := decide (ws.length < n) || (List.range n).any fun i => !(nv (wordAt ws i)).2
def rdVals (nv : ByteArray → Int × Bool) (ws : List ByteArray) (os : List Nat) : List (Nat × Int) := os.zipIdx.map fun p => (p.1, (nv (wordAt ws p.2)).1)
def encPt (tb : Nat) (o : Nat) : List Value := [.pointer (some ⟨tb, o, none⟩)]
theorem wordAt_drop (ws : List ByteArray) (j : Nat) : wordAt (ws.drop j) 0 = wordAt ws j := by
  unfold wordAt; rw [List.getD_eq_getElem?_getD, List.getD_eq_getElem?_getD, List.getElem?_drop, Nat.add_zero]
theorem rdFail_succ (nv : ByteArray → Int × Bool) (ws : List ByteArray) (f : Bool) (j : Nat) : (((f || rdFail nv ws j) || (ws.drop j).isEmpty) || !(nv (wordAt (ws.drop j) 0)).2) = (f || rdFail nv ws (j + 1)) := by
  rw [wordAt_drop]
  unfold rdFail
  rw [List.range_succ, List.any_append]
  have : (ws.drop j).isEmpty = decide (ws.length < j + 1) := by
    rw [Bool.eq_iff_iff, List.isEmpty_iff, decide_eq_true_eq, List.drop_eq_nil_iff]; omega
  rw [this]
  by_cases h : ws.length < j
  · have h2 : ws.length < j + 1 := by omega
    simp [h, h2]
  · by_cases h2 : ws.length < j + 1 <;> simp [h, h2, Bool.or_assoc, Bool.or_comm, Bool.or_left_comm]
def RnI (w : World) (rb nb tb n : Nat) (T : TypeId) (cs : Array Value) (nv : ByteArray → Int × Bool) (os : List Nat) (ws : List ByteArray) (f : Bool) (i : Value) (wr : World) : Prop :=
  ∃ j : Nat, j ≤ n ∧ i = .int .i64 j ∧ Rd wr rb nb (ws.drop j) (f || rdFail nv ws j) ∧ Blk wr tb T (setNums cs (rdVals nv ws (os.take j))) ∧ Kept (fun k => k = rb ∨ k = tb) w wr
theorem rdVals_succ (nv : ByteArray → Int × Bool) (ws : List ByteArray) (os : List Nat) (j o : Nat) (h : os[j]? = some o) : rdVals nv ws (os.take (j + 1)) = rdVals nv ws (os.take j) ++ [(o, (nv (wordAt ws j)).1)] := by
  have hj : j < os.length := (List.getElem?_eq_some_iff.1 h).1
  unfold rdVals
  rw [List.take_add_one, h]
  simp [List.zipIdx_append, List.length_take, Nat.min_eq_left (Nat.le_of_lt hj)]
set_option maxHeartbeats 4000000 in
theorem rnumbers_any (w0 w : World) (rb nb tb : Nat) (T : TypeId) (cs : Array Value) (nv : ByteArray → Int × Bool) (os : List Nat) (ws : List ByteArray) (f : Bool) (a : Option Addr) (n cap : Nat) (hw : Below w0.heap.size w0 w) (h : Rd w rb nb ws f) (hb : w0.heap.size ≤ rb) (ht : Blk w tb T cs) (hb2 : w0.heap.size ≤ tb) (hto : ∀ o ∈ os, o < cs.size) (h1 : tb ≠ rb) (h2 : tb ≠ nb)
    (hV : Vw w a (cellsOf (encPt tb) os)) (hn : os.length = n) (hVn : ∀ b off, a = some ⟨b, off, none⟩ → b ≠ rb ∧ b ≠ tb) (hnm : n ≤ 1000000000) (hd : ∀ i, i < n → NumAt w0 (wordAt ws i) (nv (wordAt ws i))) :
    Calls Tryz.prog 72 #[.iface 98 (.pointer (some ⟨rb, 0, none⟩)), .slice a n cap] w fun e w' => e = .returned (.tuple #[]) ∧ Rd w' rb nb (ws.drop n) (f || rdFail nv ws n) ∧ Blk w' tb T (setNums cs (rdVals nv ws os)) ∧ Kept (fun k => k = rb ∨ k = tb) w w' := by
  have HH := Lib.hid h; have HV := Lib.hid hV; have HN := Lib.hid hn; have HW := Lib.hid hw; have HT := Lib.hid ht; have HTO := Lib.hid hto; have HD := Lib.hid hd; have HVN := Lib.hid hVn
  clear h hV hn hw ht hto hd hVn
  have MT := fun w => meth_rnumber ⟨rb, 0, none⟩ w
  go_enter Tryz.func72, Tryz.ntmps72
  go_wp2
  go_loopw [8] (fun i wr => RnI w rb nb tb n T cs nv os ws f i wr) (fun i _ => n - (intOf i).toNat)
  case atStart => exact ⟨0, Nat.zero_le _, rfl, by simpa [rdFail] using HH.out, by simpa [rdVals, setNums] using HT.out, Kept.refl _ _⟩
  case round =>
    obtain ⟨j, hj, rfl, hr, hbk, hk⟩ := hrel
    by_cases hlt : j < n
    · have hlt' : (j : Int) < (n : Int) := by omega
      obtain ⟨o, b, off, ho, rfl, hbl, hc⟩ := HV.out.el (k := 1) (fun _ => rfl) (by omega) j (by have := HN.out; omega)
      have c0 : wr.cell? ⟨b, off + j, none⟩ = some (.pointer (some ⟨tb, o, none⟩)) := by
        have := hc 0 _ rfl
        rw [Nat.mul_one, Nat.add_zero] at this
        refine cell_kept hk this ?_
        have := HVN.out b off rfl
        rintro (c | c)
        · exact this.1 c
        · exact this.2 c
      have hos : o < (setNums cs (rdVals nv ws (os.take j))).size := by rw [setNums_size]; exact HTO.out o (List.mem_of_getElem? ho)
      have CON := Lib.hid (rnumber_any w0 wr rb nb tb o T _ _ (ws.drop j) (f || rdFail nv ws j) (nv (wordAt (ws.drop j) 0)) (below_kept HW.out hk (fun k hk => by rcases hk with rfl | rfl <;> assumption)) hr hb hbk (Array.getElem?_eq_getElem hos) h1 h2 (by rw [wordAt_drop]; exact HD.out j hlt))
      have HK := Lib.hid hk; have HO := Lib.hid ho
      clear hr hbk hk hc ho hos
      go_wp2_with (go_at_call 196; refine CON.out.mono ?_; rintro e w2 ⟨rfl, hr2, hb2', hk2⟩)
      go_roundw
      case rel =>
        rw [rdFail_succ, List.drop_drop] at hr2
        rw [wordAt_drop, ← setNums_snoc cs _ (o, _), ← rdVals_succ nv ws os j o HO.out] at hb2'
        exact ⟨j + 1, by omega, by go_num, by rw [Nat.add_comm] at hr2 ⊢; simpa [Nat.add_comm] using hr2, hb2', HK.out.trans hk2 fun _ _ c => c⟩
      case measure => simp [intOf]; omega
    · have hge : ¬ (j : Int) < (n : Int) := by omega
      obtain rfl : j = n := by omega
      have HR := Lib.hid hr; have HB := Lib.hid hbk; have HK := Lib.hid hk
      clear hr hbk hk
      go_wp2
      go_end0
      have := HB.out
      rw [List.take_of_length_le (by have := HN.out; omega)] at this
      exact ⟨rfl, HR.out, this, HK.out⟩
end Go.Proofs.YtglhenobodndjaaGreatDoor
