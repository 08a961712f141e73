/- script.Print of events whose lines are known. -/
import Derived.Test.YtglhenobodndjaaGreatDoorSt
import Derived.Test.YtglhenobodndjaaGreatDoorShelf
import Derived.Handy
namespace Go.Proofs.YtglhenobodndjaaGreatDoor
open Go.RowKit
set_option linter.unusedVariables false
set_option linter.unusedSimpArgs false

/-- The line of these cells is s. -/
def LineAt (w : World) (cs : List Value) (s : ByteArray) : Prop := ∀ W : World, Below w.heap.size w W → Calls Tryz.prog 12 #[.agg cs.toArray] W fun e w' => e = .returned (.tuple #[.string s, .bool true]) ∧ Below W.heap.size W w'
theorem LineAt.below {w w' : World} {cs : List Value} {s : ByteArray} (h : LineAt w cs s) (hb : Below w.heap.size w w') : LineAt w' cs s := fun W hW => h W (btr hb hW)
/-- The text of lines. -/
def outL (es : List (List Value × ByteArray)) : List UInt8 := es.flatMap fun p => p.2.data.toList ++ [10]
def evOk (p : List Value × ByteArray) : Prop := p.1.length = 23 ∧ p.1.toArray.all (·.oneCell') = true
theorem evSz {L : List Value} (h : L.length = 23) : (Tryz.prog.info? 36).map (·.size) = some L.length := by
  rw [h]; kernel_rfl
theorem evSzA {L : List Value} (h : L.length = 23) : (Tryz.prog.info? 36).map (·.size) = some L.toArray.size := by
  rw [List.size_toArray]; exact evSz h
theorem outL_take (es : List (List Value × ByteArray)) (k : Nat) (h : k < es.length) : outL (es.take (k + 1)) = outL (es.take k) ++ (es[k].2.data.toList ++ [10]) := by
  unfold outL
  rw [List.take_succ_eq_append_getElem h, List.flatMap_append]
  simp
theorem outL_le (es : List (List Value × ByteArray)) (k : Nat) : (outL (es.take k)).length ≤ (outL es).length := by
  unfold outL
  conv => rhs; rw [← List.take_append_drop k es, List.flatMap_append, List.length_append]
  exact Nat.le_add_right _ _
theorem cells_snoc (x : List UInt8) (s : ByteArray) : Lib.byteCells x ++ Lib.strCells (s ++ ⟨#[10]⟩) = Lib.byteCells (x ++ (s.data.toList ++ [10])) := by
  simp [Lib.byteCells, Lib.strCells]
theorem evCells_size {L : List Value} (h : L.length = 23) : (23 : Nat) = L.toArray.size := by simp [h]
/-- WriteString, out of what Join's contract lays. -/
theorem bld_write (B b : Nat) (bs : List Value) (s : ByteArray) (w : World) (h : Lib.IsBuilder 112 5 B b bs w) (hlen : bs.length + s.size ≤ 140737488355328) (hBw : B ≤ w.heap.size) :
    Calls Tryz.prog 58 #[.pointer (some ⟨b, 0, none⟩), .string s] w fun e w' => e = .returned (.tuple #[.int .i64 s.size, .nilIface]) ∧ (Lib.BuilderAt 112 5 B b (.pointer (some ⟨b, 0, none⟩)) (bs ++ Lib.strCells s) w' ∧ Below B w w') :=
  Any.Builder_WriteString { Tryz.lays156 with } Tryz.Builder_Extra_156 B b bs s w h hlen hBw
theorem wr_len {x y : List UInt8} {s : ByteArray} {N : Nat} (h1 : y = x ++ (s.data.toList ++ [10])) (h2 : y.length ≤ N) (h3 : N ≤ 65536) : (Lib.byteCells x).length + (s ++ ⟨#[10]⟩ : ByteArray).size ≤ 140737488355328 := by
  have e : (Lib.byteCells x ++ Lib.strCells (s ++ ⟨#[10]⟩)).length = y.length := by rw [cells_snoc, ← h1, Lib.byteCells_length]
  rw [List.length_append, Lib.strCells_length] at e
  omega
set_option maxRecDepth 100000 in
set_option maxHeartbeats 4000000 in
theorem print_ok (w : World) (a : Option Addr) (n c : Nat) (es : List (List Value × ByteArray)) (hV : Vw w a (cellsOf Prod.fst es)) (hn : es.length = n) (hsz : ∀ p ∈ es, evOk p) (hL : ∀ p ∈ es, LineAt w p.1 p.2) (h2 : n ≤ 200) (hlen : (outL es).length ≤ 65536) :
    Calls Tryz.prog 19 #[.slice a n c] w fun e w' => e = .returned (.tuple #[.string ⟨(outL es).toArray⟩, .int .i64 0]) ∧ Below w.heap.size w w' := by
  have HV := Lib.hid hV; have HN := Lib.hid hn; have HSZ := Lib.hid hsz; have HL := Lib.hid hL; have HLE := Lib.hid hlen
  have q1 : ¬ (n : Int) > 200 := by omega
  have q2 : ¬ (200 : Int) < (n : Int) := by omega
  clear hV hn hsz hL hlen
  go_enter Tryz.func19, Tryz.ntmps19
  go_wp2
  go_loopw [14] (fun i wr => ∃ k : Nat, k ≤ n ∧ i = .int .i64 k ∧ Lib.IsBuilder 112 5 w.heap.size w.heap.size (Lib.byteCells (outL (es.take k))) wr ∧ Below w.heap.size w wr) (fun i _ => n - (intOf i).toNat)
  case atStart => exact ⟨0, Nat.zero_le _, rfl, bld_new w (Nat.le_refl _), (by (repeat (with_reducible first | exact Below.refl _ _ | refine bdr ?_ | refine bdn ?_ _ | refine bal ?_ _)))⟩
  case round =>
    obtain ⟨k, hk, rfl, hI, hB⟩ := hrel
    have HI := Lib.hid hI; have HB := Lib.hid hB
    have yb := bld_lt hI
    have yw := hB.size
    clear hI hB
    by_cases hlt : k < n
    · have hke : k < es.length := by rw [HN.out]; exact hlt
      obtain ⟨b, off, rfl, hb, hr⟩ := HV.out.range (k := 23) (fun x hx => (HSZ.out x hx).1) (by omega) k hke
      have HK := Lib.hid (outL_take es k hke)
      have HM := Lib.hid (outL_le es (k + 1))
      have HR := Lib.hid (rangeAt_below hr HB.out)
      have HP := Lib.hid (HSZ.out _ (List.getElem_mem hke))
      have HLN := Lib.hid (HL.out _ (List.getElem_mem hke))
      clear hr
      obtain ⟨p, hp⟩ : ∃ p, es[k] = p := ⟨_, rfl⟩
      rw [hp] at HK HR HP HLN
      clear hp hke
      obtain ⟨L, s⟩ := p
      dsimp only at HK HR HP HLN
      have hL1 := HP.out.1
      have HL1 := Lib.hid hL1
      have hs5 : s.size + 1 ≤ 65536 := by
        have h1 := HM.out; have h2 := HLE.out; rw [HK.out] at h1; simp at h1; omega
      clear hL1
      go_wp2_with (first
        | (refine wpList_load_mid rfl 36 (.tmp 16) rfl b (off + k * 23) rfl L _ HR.out Tryz.underlying36 rfl (evSz HL1.out) ?_)
        | (refine st_new rfl 36 (.tmp 6) (.tmp 17) rfl L.toArray _ _ rfl rfl (evSzA HL1.out) (evCells_size HL1.out) HP.out.2 ?_)
        | (refine wpList_load_row rfl 36 (.tmp 6) rfl _ rfl _ L.toArray _ _ (heap_alloc_new _ _) Tryz.underlying36 rfl (evSzA HL1.out) ?_)
        | (go_at_call 12; refine (HLN.out _ (by (repeat (with_reducible first | exact HB.out | exact Below.refl _ _ | refine bdr ?_ | refine bdn ?_ _ | refine bal ?_ _)))).mono ?_; rintro e w2 ⟨rfl, hb2⟩; have HI2 := Lib.hid (bld_below HI.out (btr (bal (Below.refl _ _) _) hb2)); have HB2 := Lib.hid (btr HB.out (btr (bal (Below.refl _ _) _) hb2)); have y2 := hb2.size; (try simp at y2); have yB : w.heap.size ≤ w2.heap.size := HB2.out.size))
      refine (bld_write w.heap.size w.heap.size _ _ _ HI2.out (wr_len HK.out HM.out HLE.out) yB).mono ?_
      rintro e w3 ⟨rfl, hI3, hb3⟩
      rw [cells_snoc, ← HK.out] at hI3
      have HI3 := Lib.hid hI3; have HB3 := Lib.hid (HB2.out.trans hb3)
      clear hI3 hb3 hb2
      go_wp2
      go_roundw
      case rel => exact ⟨k + 1, by omega, by go_num, .inr HI3.out, HB3.out⟩
      case measure => simp [intOf]; omega
    · have : k = n := by omega
      subst this
      have e0 : es.take k = es := List.take_of_length_le (by rw [HN.out]; omega)
      rw [e0] at HI
      have q5 : ¬ (((Lib.byteCells (outL es)).length : Nat) : Int) > 65536 := by rw [Lib.byteCells_length]; have := HLE.out; omega
      have q6 : ¬ (65536 : Int) < (((Lib.byteCells (outL es)).length : Nat) : Int) := by omega
      clear e0
      go_wp2_with (first
        | (go_at_call 59; refine (Tryz.Builder_Len w.heap.size w.heap.size _ _ HI.out).mono ?_; rintro e w2 ⟨rfl, rfl⟩)
        | (go_at_call 60; refine (Tryz.Builder_String_any w.heap.size w.heap.size _ _ HI.out yw).mono ?_; rintro e w3 ⟨rfl, hb3⟩))
      go_ret2
      exact ⟨rfl, HB.out.trans hb3⟩
set_option maxHeartbeats 2000000 in
theorem print_lim (w : World) (a : Option Addr) (n c : Nat) (h2 : 200 < n) (h3 : n ≤ 1000000) :
    Calls Tryz.prog 19 #[.slice a n c] w fun e w' => e = .returned (.tuple #[.string ⟨#[]⟩, .int .i64 1]) ∧ w' = w := by
  have q1 : (n : Int) > 200 := by omega
  have q2 : (200 : Int) < (n : Int) := by omega
  go_enter Tryz.func19, Tryz.ntmps19
  go_wp2
  go_ret2
  exact ⟨rfl, rfl⟩
end Go.Proofs.YtglhenobodndjaaGreatDoor
