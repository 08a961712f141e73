/- The law on limits: the walks of awake and of the law. -/
import Derived.Test.YtglhenobodndjaaGreatDoorEvl
import Derived.Test.YtglhenobodndjaaGreatDoorSize
namespace Go.Proofs.YtglhenobodndjaaGreatDoor
open Go.RowKit
set_option linter.unusedVariables false
set_option linter.unusedSimpArgs false

def day4 : ByteArray := ⟨#[100, 97, 121, 32, 52]⟩
def day5 : ByteArray := ⟨#[100, 97, 121, 32, 53]⟩
theorem ev4 (w : World) (hS : w.ShapedOpen Tryz.prog) : EvAt w (lightL (dayE (4 : Nat))) day4 := ev_day w hS 4 (by decide) day4 (by decide) (by decide +kernel)
theorem ev5 (w : World) (hS : w.ShapedOpen Tryz.prog) : EvAt w (lightL (dayE (5 : Nat))) day5 := ev_day w hS 5 (by decide) day5 (by decide) (by decide +kernel)
theorem ln4 (w : World) (hS : w.ShapedOpen Tryz.prog) : LineAt w (lightL (dayE (4 : Nat))) day4 := line_day w hS 4 (by decide) day4 (by decide) (by decide +kernel) (by decide +kernel)
theorem ln5 (w : World) (hS : w.ShapedOpen Tryz.prog) : LineAt w (lightL (dayE (5 : Nat))) day5 := line_day w hS 5 (by decide) day5 (by decide) (by decide +kernel) (by decide +kernel)
def es5 : List (List Value × ByteArray) := [(lightL (dayE (5 : Nat)), day5), (lightL closeE, closeW)]
def text5 : ByteArray := ⟨#[100, 97, 121, 32, 53, 10, 99, 108, 111, 115, 101, 10]⟩
theorem text5_eq : text5 = ⟨(outL es5).toArray⟩ := by
  have : (outL es5) = [100, 97, 121, 32, 53, 10, 99, 108, 111, 115, 101, 10] := rfl
  rw [this]; rfl
theorem mem5 {p : List Value × ByteArray} (h : p ∈ es5) : p = (lightL (dayE (5 : Nat)), day5) ∨ p = (lightL closeE, closeW) := by simpa [es5] using h
theorem par5 (w : World) (hS : w.ShapedOpen Tryz.prog) : Calls Tryz.prog 21 #[.string text5] w fun e w' => ∃ a c, e = .returned (.tuple #[.slice a 2 c, .int .i64 0, .int .i64 0]) ∧ Vw w' a (cellsOf Prod.fst es5) ∧ Below w.heap.size w w' := by
  refine (parse_any w es5 2 text5 hS text5_eq rfl (fun p hp => ?_) (fun p hp => ?_) (fun p hp => ?_) (by decide) (by decide)).mono fun e w' h => ?_
  · rcases mem5 hp with rfl | rfl <;> exact light_ok _ _
  · rcases mem5 hp with rfl | rfl
    · exact ev5 w hS
    · exact ev_close w hS
  · rcases mem5 hp with rfl | rfl <;> decide
  · unfold ParseP at h
    rw [if_pos (by decide)] at h
    obtain ⟨a, c, rfl, hv, -, hb⟩ := h
    exact ⟨a, c, rfl, hv, hb⟩
theorem prn5 (w : World) (hS : w.ShapedOpen Tryz.prog) (a : Option Addr) (c : Nat) (hV : Vw w a (cellsOf Prod.fst es5)) : Calls Tryz.prog 19 #[.slice a 2 c] w fun e w' => e = .returned (.tuple #[.string text5, .int .i64 0]) ∧ Below w.heap.size w w' := by
  rw [text5_eq]
  refine print_ok w a 2 c es5 hV rfl (fun p hp => ?_) (fun p hp => ?_) (by decide) (by decide)
  · rcases mem5 hp with rfl | rfl <;> exact light_ok _ _
  · rcases mem5 hp with rfl | rfl
    · exact ln5 w hS
    · exact line_close w hS
theorem area1 (g c : Nat) (w : World) (hV : Vw w (some ⟨g, 0, none⟩) (rcCells rect1)) : Calls Tryz.prog 24 #[.agg #[.slice (some ⟨g, 0, none⟩) 1 c]] w fun e w' => e = .returned (.int .i64 4) ∧ Below w.heap.size w w' :=
  (area_any _ 1 c rect1 w hV rfl (by decide)).mono fun e w' ⟨x, he, hx, hb⟩ => by
    have := hx.1 rect1_vld
    rw [show sizeRc rect1 = 4 from rfl] at this
    subst this
    exact ⟨he, hb⟩
set_option maxRecDepth 100000 in
set_option maxHeartbeats 8000000 in
theorem awake_ok (w : World) (hS : w.ShapedOpen Tryz.prog) : Calls Tryz.prog 7 #[] w fun e w' => e = .returned (.bool true) ∧ Below w.heap.size w w' := by
  have HS := Lib.hid hS
  clear hS
  have HEY : RowKit.Hid (Calls Tryz.prog 17 #[.string ⟨#[121, 105, 101, 108, 100, 32, 51, 32, 48, 32, 49, 32, 48, 32, 48, 32, 50, 32, 50]⟩] w (YldP w)) := ev_yield w HS.out
  have HLY : RowKit.Hid (∀ W (g c : Nat), Below w.heap.size w W → Vw W (some ⟨g, 0, none⟩) (rcCells rect1) → Calls Tryz.prog 12 #[.agg (yieldE.cells (.slice none 0 0) (.slice (some ⟨g, 0, none⟩) 1 c) (.slice none 0 0))] W fun e w' => e = .returned (.tuple #[.string ⟨#[121, 105, 101, 108, 100, 32, 51, 32, 48, 32, 49, 32, 48, 32, 48, 32, 50, 32, 50]⟩, .bool true]) ∧ Below W.heap.size W w') := fun W g c hW hV => line_yield W (shaped_below HS.out hW) g c hV
  have HPA : RowKit.Hid (∀ W, Below w.heap.size w W → Calls Tryz.prog 21 #[.string ⟨#[100, 97, 121, 32, 53, 10, 99, 108, 111, 115, 101, 10]⟩] W fun e w' => ∃ a c, e = .returned (.tuple #[.slice a 2 c, .int .i64 0, .int .i64 0]) ∧ Vw w' a (cellsOf Prod.fst es5) ∧ Below W.heap.size W w') := fun W hW => par5 W (shaped_below HS.out hW)
  have HPR : RowKit.Hid (∀ W a c, Below w.heap.size w W → Vw W a (cellsOf Prod.fst es5) → Calls Tryz.prog 19 #[.slice a 2 c] W fun e w' => e = .returned (.tuple #[.string ⟨#[100, 97, 121, 32, 53, 10, 99, 108, 111, 115, 101, 10]⟩, .int .i64 0]) ∧ Below W.heap.size W w') := fun W a c hW hV => prn5 W (shaped_below HS.out hW) a c hV
  go_enter Tryz.func7, Tryz.ntmps7
  go_wp2_with (first
    | (go_at_call 17; refine HEY.out.mono ?_; rintro e w1 ⟨g, c, rfl, hv1, hb1⟩)
    | (refine st_new rfl 36 (.tmp 1) (.tmp 12) rfl (yieldE.cells (.slice none 0 0) (.slice (some ⟨g, 0, none⟩) 1 c) (.slice none 0 0)) _ _ rfl rfl evInfo rfl (ev_one yieldE _ 1 c) ?_)
    | (refine wpList_load_row rfl 36 (.tmp 1) rfl w1.heap.size rfl _ (yieldE.cells (.slice none 0 0) (.slice (some ⟨g, 0, none⟩) 1 c) (.slice none 0 0)) _ _ (heap_alloc_new _ _) Tryz.underlying36 rfl evInfo ?_)
    | (go_at_call 12; refine (HLY.out _ g c (bal hb1 _) (hv1.alloc _)).mono ?_; rintro e w2 ⟨rfl, hb2⟩; have HB2 := Lib.hid (btr (bal hb1 _) hb2 : Below w.heap.size w w2))
    | (go_at_call 21; refine (HPA.out _ HB2.out).mono ?_; rintro e w3 ⟨a3, c3, rfl, hv3, hb3⟩; have HB3 := Lib.hid (btr HB2.out hb3))
    | (go_at_call 19; refine (HPR.out _ a3 c3 HB3.out hv3).mono ?_; rintro e w4 ⟨rfl, hb4⟩; have HB14 := Lib.hid (btr (bal (Below.refl _ _) _) (btr hb2 (btr hb3 hb4)) : Below w1.heap.size w1 w4); have HBE := Lib.hid ((Blk.new w1 36 (yieldE.cells (.slice none 0 0) (.slice (some ⟨g, 0, none⟩) 1 c) (.slice none 0 0))).below (btr hb2 (btr hb3 hb4))); have c0 : w4.cell? ⟨w1.heap.size, 0, none⟩ = some (.int .i64 4) := HBE.out.cell 0; have c2 : w4.cell? ⟨w1.heap.size, 2, none⟩ = some (.int .i64 3) := HBE.out.cell 2; have c7 : w4.cell? ⟨w1.heap.size, 7, none⟩ = some (.slice (some ⟨g, 0, none⟩) 1 c) := HBE.out.cell 7; have y4 := HBE.out.lt)
    | (go_at_call 24; refine (area1 g c _ (hv1.below HB14.out)).mono ?_; rintro e w5 ⟨rfl, hb5⟩; have HBE5 := Lib.hid (HBE.out.below hb5))
    | (refine ld_row_w rfl 36 (.tmp 1) rfl w1.heap.size rfl _ (yieldE.cells (.slice none 0 0) (.slice (some ⟨g, 0, none⟩) 1 c) (.slice none 0 0)) _ _ HBE5.out Tryz.underlying36 rfl evInfo ?_)
    | (go_at_call 14; refine (same_eq yieldE _ 1 c _ 1 c rect1 _ ((hv1.below HB14.out).below hb5) rfl (by decide) ((hv1.below HB14.out).below hb5) rfl).mono ?_; rintro e w6 ⟨rfl, hb6⟩))
  go_ret
  exact ⟨rfl, btr (btr hb1 HB14.out) (btr hb5 hb6)⟩
end Go.Proofs.YtglhenobodndjaaGreatDoor
