/- The reference's regions: which are valid; how many squares they have. -/
import Derived.Test.YtglhenobodndjaaGreatDoorComb
namespace Go.Proofs.YtglhenobodndjaaGreatDoor
open Go.RowKit Go.Sort Go.Shelf
set_option linter.unusedVariables false
set_option linter.unusedSimpArgs false

theorem chos_or_nil (l : List Rc) (x y : Int) : (keepB 1 (insB l x y) (insB [] x y) = true) ↔ inRc l x y := by
  rw [← insB_iff]
  have : insB [] x y = false := rfl
  rw [this]; simp [keepB]
theorem scOk_nil (w : World) : ScOk w ⟨none, 0, 0, []⟩ := ⟨Vw.nil _ _, rfl, by simp⟩
/-- Combine with nothing: the canonical rectangles. -/
theorem combine_or_nil (a : Option Addr) (n cap : Nat) (l : List Rc) (w : World) (h : ScOk w ⟨a, n, cap, l⟩) :
    Calls Tryz.prog 79 #[.slice a n cap, .slice none 0 0, .int .i64 1] w (NewCan w (inRc l)) :=
  (combine_any a n cap l none 0 0 [] 1 w h (scOk_nil w)).mono fun e w' ⟨l', h1, h2, h3⟩ => ⟨l', h1.congr fun x y => chos_or_nil l x y, h2, h3⟩
set_option maxHeartbeats 4000000 in
theorem rvalid_any (a : Option Addr) (n cap : Nat) (l : List Rc) (w : World) (hV : Vw w a (rcCells l)) (hn : l.length = n) (hc : n ≤ 9223372036854775807) :
    Calls Tryz.prog 38 #[.agg #[.slice a n cap]] w (Says w (Vld l)) := by
  have HV := Lib.hid hV; have HN := Lib.hid hn
  clear hV hn
  by_cases h120 : n ≤ 120
  · have h1 : ¬ (120 : Int) < (n : Int) := by omega
    go_enter Tryz.func38, Tryz.ntmps38
    go_wp2
    obtain ⟨W0, hW0⟩ : ∃ W0, w.alloc (.cells #[.slice a n cap] 26) = W0 := ⟨_, rfl⟩
    have BX : RowKit.Hid (Blk W0 w.heap.size 26 #[.slice a n cap]) := by show Blk W0 _ _ _; rw [← hW0]; exact Blk.fresh rfl
    have B0 : RowKit.Hid (Below w.heap.size w W0) := by show Below _ _ _; rw [← hW0]; exact (by (repeat (with_reducible first | exact Below.refl _ _ | refine bdr ?_ | refine bdn ?_ _ | refine bal ?_ _)))
    rw [hW0]
    clear hW0
    go_loopw [12] (fun i wr => LookI W0 n (fun k => ∀ j (hj : j < l.length), j < k → Prp l[j]) i wr) (fun i _ => n - (intOf i).toNat)
    case atStart => exact ⟨0, Nat.zero_le _, rfl, Below.refl _ _, fun j _ h => by omega⟩
    case round =>
      obtain ⟨k, hk, rfl, hb, hno⟩ := hrel
      have NO := Lib.hid hno
      clear hno
      by_cases hlt : k < n
      · have hlt' : (k : Int) < (n : Int) := by omega
        have g1 : k < l.length := by have := HN.out; omega
        obtain ⟨b, off, rfl, hbl, c0, c1, c2, c3⟩ := ((HV.out.below B0.out).below hb).rc k g1
        obtain ⟨q, hq⟩ : ∃ q, l[k]'g1 = q := ⟨_, rfl⟩
        rw [hq] at c0 c1 c2 c3
        have HQ := Lib.hid hq; have HB := Lib.hid hb
        obtain ⟨d, hd⟩ : ∃ d, decide (Prp q) = d := ⟨_, rfl⟩
        have HD := Lib.hid hd
        have HC : RowKit.Hid (∀ W, Calls Tryz.prog 77 #[.agg #[.int .i64 q.1, .int .i64 q.2.1, .int .i64 q.2.2.1, .int .i64 q.2.2.2]] W fun e w' => e = .returned (.bool d) ∧ Below W.heap.size W w') := fun W => by rw [← hd]; exact rproper_any q W
        clear hq hb hd
        obtain ⟨q0, q1, q2, q3⟩ := q
        dsimp only at c0 c1 c2 c3 HC
        cases d with
        | true =>
          go_wp2_with (go_at_call 77; refine (HC.out _).mono ?_; rintro e w1 ⟨rfl, hb1⟩)
          go_roundw
          case rel =>
            refine ⟨k + 1, by omega, by go_num, btr (by (repeat (with_reducible first | exact HB.out | exact Below.refl _ _ | refine bdr ?_ | refine bdn ?_ _ | refine bal ?_ _))) hb1, fun j hj hjk => ?_⟩
            by_cases e : j = k
            · subst e; rw [HQ.out]; exact of_decide_eq_true HD.out
            · exact NO.out j hj (by omega)
          case measure => simp [intOf]; omega
        | false =>
          go_wp2_with (go_at_call 77; refine (HC.out _).mono ?_; rintro e w1 ⟨rfl, hb1⟩)
          go_ret
          refine ⟨false, rfl, ⟨(fun h => by cases h), fun h => ?_⟩, btr B0.out (btr (by (repeat (with_reducible first | exact HB.out | exact Below.refl _ _ | refine bdr ?_ | refine bdn ?_ _ | refine bal ?_ _))) hb1)⟩
          have := h.2.1 _ (List.getElem_mem g1)
          rw [HQ.out] at this
          exact absurd this (of_decide_eq_false HD.out)
      · have hge : ¬ (k : Int) < (n : Int) := by omega
        have PRP : RowKit.Hid (∀ q ∈ l, Prp q) := fun q hq => by
          obtain ⟨j, hj, rfl⟩ := List.getElem_of_mem hq
          exact NO.out j hj (by have := HN.out; omega)
        have BX2 := Lib.hid (BX.out.below hb)
        have x0 : wr.cell? ⟨w.heap.size, 0, none⟩ = some (.slice a n cap) := BX2.out.cell 0
        have y0 := BX2.out.lt
        have HB := Lib.hid (btr B0.out hb)
        clear hb NO
        go_wp2
        go_region_held3 (fun w' => w'.cell? ⟨w.heap.size, 0, none⟩ = some (.slice a n cap)) (simp [go_sem, *])
          (first
          | (go_at_call 79; refine (combine_or_nil _ _ _ l _ ⟨HV.out.below (by (repeat (with_reducible first | exact HB.out | exact Below.refl _ _ | refine bdr ?_ | refine bdn ?_ _ | refine bal ?_ _))), HN.out, by dsimp only; omega⟩).mono ?_; rintro e w2 ⟨l', hcan, hl', v2, rfl, hown2, hb2⟩; obtain ⟨a2, cap2, rfl, hc2, hm2, -⟩ := own_form hown2; have BX3 : Blk w2 w.heap.size 26 #[.slice a n cap] := BX2.out.below (by first | exact hb2 | exact btr (bdr (Below.refl _ _)) hb2); have x2 : w2.cell? ⟨w.heap.size, 0, none⟩ = some (.slice a n cap) := BX3.cell 0; have y2 := BX3.lt; have HB2 : Below w.heap.size w w2 := btr (by (repeat (with_reducible first | exact HB.out | exact Below.refl _ _ | refine bdr ?_ | refine bdn ?_ _ | refine bal ?_ _))) hb2)
          | (go_at_call 78; refine (rects_eq _ _ _ l' _ _ _ l _ (vw_of_own hown2) rfl (by unfold maxLen at hm2; omega) (HV.out.below HB2) HN.out hc).mono ?_; rintro e w3 ⟨rfl, q3, rfl⟩))
        all_goals
          go_wp2
          go_ret
          refine ⟨_, rfl, ?_, (by (repeat (with_reducible first | exact HB2 | exact Below.refl _ _ | refine bdr ?_ | refine bdn ?_ _ | refine bal ?_ _)))⟩
          rw [decide_eq_true_eq]
          exact ⟨fun e => ⟨by rw [HN.out]; exact h120, PRP.out, by rw [← e]; exact (IsCan.congr hcan fun x y => by rw [e])⟩, fun h => hcan.uniq h.2.2⟩
  · have h1 : (120 : Int) < (n : Int) := by omega
    go_enter Tryz.func38, Tryz.ntmps38
    go_wp2
    go_ret
    exact ⟨false, rfl, ⟨(fun h => by cases h), fun h => absurd h.1 (by rw [HN.out]; exact h120)⟩, (by (repeat (with_reducible first | exact Below.refl _ _ | refine bdr ?_ | refine bdn ?_ _ | refine bal ?_ _)))⟩
/-- How many squares proper rectangles have. -/
def sizeRc : List Rc → Int
  | [] => 0
  | q :: l => (q.2.2.1 - q.1) * (q.2.2.2 - q.2.1) + sizeRc l
theorem sizeRc_snoc (l : List Rc) (q : Rc) : sizeRc (l ++ [q]) = sizeRc l + (q.2.2.1 - q.1) * (q.2.2.2 - q.2.1) := by
  induction l with
  | nil => simp [sizeRc]
  | cons x l ih => simp only [List.cons_append, sizeRc, ih]; omega
theorem prp_area {q : Rc} (h : Prp q) : 0 ≤ (q.2.2.1 - q.1) * (q.2.2.2 - q.2.1) ∧ (q.2.2.1 - q.1) * (q.2.2.2 - q.2.1) ≤ 268435456 := by
  obtain ⟨h1, h2, h3, h4, h5, h6⟩ := h
  refine ⟨Int.mul_nonneg (by omega) (by omega), ?_⟩
  have := Int.mul_le_mul (show q.2.2.1 - q.1 ≤ 16384 by omega) (show q.2.2.2 - q.2.1 ≤ 16384 by omega) (by omega) (by omega)
  omega
theorem sizeRc_bd {l : List Rc} (h : ∀ q ∈ l, Prp q) : 0 ≤ sizeRc l ∧ sizeRc l ≤ l.length * 268435456 := by
  induction l with
  | nil => simp [sizeRc]
  | cons q l ih =>
    have h1 := prp_area (h q (by simp))
    have h2 := ih fun q hq => h q (by simp [hq])
    simp only [sizeRc, List.length_cons]
    omega
end Go.Proofs.YtglhenobodndjaaGreatDoor
