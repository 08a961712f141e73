/- The reference's area of a region. -/
import Derived.Test.YtglhenobodndjaaGreatDoorRval
namespace Go.Proofs.YtglhenobodndjaaGreatDoor
open Go.RowKit Go.Sort Go.Shelf
set_option linter.unusedVariables false
set_option linter.unusedSimpArgs false

set_option maxHeartbeats 4000000 in
theorem size_any (a : Option Addr) (n cap : Nat) (l : List Rc) (w : World) (hV : Vw w a (rcCells l)) (hn : l.length = n) (hc : n ≤ 1000000) (hp : ∀ q ∈ l, Prp q) :
    Calls Tryz.prog 63 #[.slice a n cap] w fun e w' => e = .returned (.int .i64 (sizeRc l)) ∧ Below w.heap.size w w' := by
  have HV := Lib.hid hV; have HN := Lib.hid hn; have HP := Lib.hid hp
  clear hV hn hp
  go_enter Tryz.func63, Tryz.ntmps63
  go_wp2
  go_loopw [3, 8] (fun s i wr => ∃ k : Nat, k ≤ n ∧ i = .int .i64 k ∧ s = .int .i64 (sizeRc (l.take k)) ∧ Below w.heap.size w wr) (fun _ i _ => n - (intOf i).toNat)
  case atStart => exact ⟨0, Nat.zero_le _, rfl, rfl, Below.refl _ _⟩
  case round =>
    obtain ⟨k, hk, rfl, rfl, hb⟩ := hrel
    have HB := Lib.hid hb
    by_cases hlt : k < n
    · have g1 : k < l.length := by have := HN.out; omega
      obtain ⟨b, off, rfl, hbl, c0, c1, c2, c3⟩ := (HV.out.below hb).rc k g1
      have hs := sizeRc_snoc (l.take k) l[k]
      rw [← List.take_succ_eq_append_getElem g1] at hs
      have HA := prp_area (HP.out _ (List.getElem_mem g1))
      have HQ := HP.out _ (List.getElem_mem g1)
      have hbd := sizeRc_bd (l := l.take k) (fun q hq => HP.out q (List.mem_of_mem_take hq))
      have hkl : (l.take k).length ≤ 1000000 := by rw [List.length_take]; omega
      obtain ⟨q, hq⟩ : ∃ q, l[k] = q := ⟨_, rfl⟩
      rw [hq] at c0 c1 c2 c3 hs HA HQ
      clear hq hb
      obtain ⟨q0, q1, q2, q3⟩ := q
      dsimp only at c0 c1 c2 c3 hs HA
      obtain ⟨S, hS⟩ : ∃ S, sizeRc (l.take k) = S := ⟨_, rfl⟩
      rw [hS] at hs hbd ⊢
      have HSS := Lib.hid hS; have HS := Lib.hid hs
      obtain ⟨p0, p1, p2, p3, p4, p5⟩ := HQ
      dsimp only at p0 p1 p2 p3 p4 p5
      have d1 : wrap64 (q2 - q0) = q2 - q0 := IntWalk.wrap64_in _ (by omega)
      have d2 : wrap64 (q3 - q1) = q3 - q1 := IntWalk.wrap64_in _ (by omega)
      have d3 : wrap64 ((q2 - q0) * (q3 - q1)) = (q2 - q0) * (q3 - q1) := IntWalk.wrap64_in _ (by omega)
      have d4 : wrap64 (S + (q2 - q0) * (q3 - q1)) = S + (q2 - q0) * (q3 - q1) := IntWalk.wrap64_in _ (by omega)
      clear hS hs hbd
      go_wp2
      go_roundw
      case rel => exact ⟨k + 1, by omega, by go_num, by rw [HS.out]; exact congrArg _ d4, (by (repeat (with_reducible first | exact HB.out | exact Below.refl _ _ | refine bdr ?_ | refine bdn ?_ _ | refine bal ?_ _)))⟩
      case measure => simp [intOf]; omega
    · have hge : l.take k = l := List.take_of_length_le (by have := HN.out; omega)
      rw [hge]
      clear hge
      go_wp2
      go_ret
      exact ⟨rfl, hb⟩
/-- How many squares a region has; none if it is not valid. -/
def areaOf (l : List Rc) (x : Int) : Prop := (Vld l → x = sizeRc l) ∧ (¬ Vld l → x = 0)
set_option maxRecDepth 100000 in
set_option maxHeartbeats 2000000 in
theorem area_any (a : Option Addr) (n cap : Nat) (l : List Rc) (w : World) (hV : Vw w a (rcCells l)) (hn : l.length = n) (hc : n ≤ 9223372036854775807) :
    Calls Tryz.prog 24 #[.agg #[.slice a n cap]] w fun e w' => ∃ x, e = .returned (.int .i64 x) ∧ areaOf l x ∧ Below w.heap.size w w' := by
  have HC : RowKit.Hid (∀ W, Below w.heap.size w W → Calls Tryz.prog 38 #[.agg #[.slice a n cap]] W (Says W (Vld l))) := fun W hW => rvalid_any a n cap l W (hV.below hW) hn hc
  have HZ : RowKit.Hid (∀ W, Below w.heap.size w W → Vld l → Calls Tryz.prog 63 #[.slice a n cap] W fun e w' => e = .returned (.int .i64 (sizeRc l)) ∧ Below W.heap.size W w') := fun W hW hv =>
    size_any a n cap l W (hV.below hW) hn (by have := hv.1; omega) hv.2.1
  clear hV hn hc
  by_cases hv : Vld l
  · have HVV := Lib.hid hv
    clear hv
    go_enter Tryz.func24, Tryz.ntmps24
    go_wp2_with (first
      | (go_at_call 38; refine (HC.out _ (by (repeat (with_reducible first | exact Below.refl _ _ | refine bdr ?_ | refine bdn ?_ _ | refine bal ?_ _)))).mono ?_; rintro e w1 ⟨b, rfl, hv, hb1⟩; obtain rfl : b = true := hv.2 HVV.out; clear hv; have c0 : w1.cell? ⟨w.heap.size, 0, none⟩ = some (.slice a n cap) := bc1 hb1 (by simp [go_sem]); have y1 := hb1.size; (try simp at y1))
      | (go_at_call 63; refine (HZ.out _ (btr (by (repeat (with_reducible first | exact Below.refl _ _ | refine bdr ?_ | refine bdn ?_ _ | refine bal ?_ _))) hb1) HVV.out).mono ?_; rintro e w2 ⟨rfl, hb2⟩))
    go_ret
    exact ⟨_, rfl, ⟨fun _ => rfl, fun h => absurd HVV.out h⟩, btr (btr (by (repeat (with_reducible first | exact Below.refl _ _ | refine bdr ?_ | refine bdn ?_ _ | refine bal ?_ _))) hb1) hb2⟩
  · have HVV := Lib.hid hv
    clear hv
    go_enter Tryz.func24, Tryz.ntmps24
    go_wp2_with (go_at_call 38; refine (HC.out _ (by (repeat (with_reducible first | exact Below.refl _ _ | refine bdr ?_ | refine bdn ?_ _ | refine bal ?_ _)))).mono ?_; rintro e w1 ⟨b, rfl, hv, hb1⟩; obtain rfl : b = false := by cases b with | true => exact absurd (hv.1 rfl) HVV.out | false => rfl)
    go_ret
    exact ⟨0, rfl, ⟨fun h => absurd h HVV.out, fun _ => rfl⟩, btr (by (repeat (with_reducible first | exact Below.refl _ _ | refine bdr ?_ | refine bdn ?_ _ | refine bal ?_ _))) hb1⟩
end Go.Proofs.YtglhenobodndjaaGreatDoor
