/- Regions: canonical rectangles; which regions are valid. -/
import Derived.Test.YtglhenobodndjaaGreatDoorBuild
import Derived.Test.YtglhenobodndjaaGreatDoorRcfn
namespace Go.Proofs.YtglhenobodndjaaGreatDoor
open Go.RowKit Go.Sort Go.Shelf
set_option linter.unusedVariables false
set_option linter.unusedSimpArgs false

theorem asc_of {c : List Int} (h : c.Pairwise (· < ·)) : Asc c := fun i j hij hj => by
  have := List.pairwise_iff_getElem.1 h i j (by omega) hj hij
  simpa [List.getD_eq_getElem?_getD, List.getElem?_eq_getElem hj, List.getElem?_eq_getElem (show i < c.length by omega)] using this
theorem cutting_allY {ls : List (Sc Rc)} {s : Sc Rc} (h : s ∈ ls) : Cutting (ascOf (allY ls)) s.l := fun q hq => by
  rw [ascOf_mem, ascOf_mem]
  unfold allY edgesY
  exact ⟨List.mem_flatMap.2 ⟨s, h, List.mem_flatMap.2 ⟨q, hq, by simp⟩⟩, List.mem_flatMap.2 ⟨s, h, List.mem_flatMap.2 ⟨q, hq, by simp⟩⟩⟩
set_option maxHeartbeats 1000000 in
theorem rowcl_any (b : Nat) (a : Option Addr) (n cap : Nat) (l : List Rc) (y : Int) (W : World) (hc : W.cell? ⟨b, 0, none⟩ = some (.slice a n cap)) (hV : Vw W a (rcCells l)) (hn : l.length = n) (hl : n ≤ 100000) (hp : ∀ q ∈ l, q.1 < q.2.2.1) :
    Calls Tryz.prog 129 (#[.int .i64 y] ++ #[.pointer (some ⟨b, 0, none⟩)]) W (NewRow W fun x => inRow l y x) := by
  have HV := Lib.hid hV; have HN := Lib.hid hn; have HP := Lib.hid hp
  clear hV hn hp
  show Calls Tryz.prog 129 #[.int .i64 y, .pointer (some ⟨b, 0, none⟩)] W _
  go_enter Tryz.func129, Tryz.ntmps129
  go_wp2_with (go_at_call 130; refine (row_any _ _ _ l _ _ HV.out HN.out hl HP.out).mono ?_; rintro e w' ⟨s, h1, h2, h3, v, rfl, h4, h5⟩)
  go_ret
  exact ⟨s, h1, h2, h3, v, rfl, h4, h5⟩
set_option maxHeartbeats 1000000 in
theorem canonical_any (a : Option Addr) (n cap : Nat) (l : List Rc) (w : World) (hV : Vw w a (rcCells l)) (hn : l.length = n) (hl : n ≤ 100000) (hp : ∀ q ∈ l, q.1 < q.2.2.1) :
    Calls Tryz.prog 113 #[.slice a n cap] w (NewCan w (inRc l)) := by
  have HV := Lib.hid hV; have HN := Lib.hid hn; have HP := Lib.hid hp
  have eg : ∀ args w, (callFunc 129 args).run Tryz.prog w = .ok (.enter 129 args) w := enters_of Tryz.func129 (by kernel_rfl) rfl
  have EG := Lib.hid eg
  clear hV hn hp eg
  go_enter Tryz.func113, Tryz.ntmps113
  go_wp2_with (first
    | (go_at_call 128; go_loud (refine (cuts_any _ _ _ [⟨a, n, cap, l⟩] _ (by first | exact vw_blk (Blk.fresh (by simp)) | exact vw_blk (Blk.fresh (by simp)).drew) rfl (by simp) (fun s hs => by rw [List.mem_singleton.1 hs]; exact ⟨HV.out.below (by (repeat (with_reducible first | exact Below.refl _ _ | refine bdr ?_ | refine bdn ?_ _ | refine bal ?_ _))), HN.out, hl⟩)).mono ?_); rintro e w1 ⟨v1, rfl, hown1, hb1⟩; obtain ⟨a1, cap1, rfl, -, -, -⟩ := own_form hown1; have OWN1 := Lib.hid hown1; have HB1 := Lib.hid hb1; have BX := Lib.hid (Blk.below (by first | exact (Blk.fresh rfl).alloc _ | exact Blk.fresh rfl) hb1 : Blk w1 w.heap.size 24 #[.slice a n cap]); clear hown1 hb1)
    | (go_at_call 127; refine (build_any 129 #[.pointer (some ⟨w.heap.size, 0, none⟩)] EG.out (fun y x => inRow l y x) (inRc l) (ascOf (allY [⟨a, n, cap, l⟩])) _ _ _ _ (vw_of_own OWN1.out) rfl (by have := ascOf_len (allY [⟨a, n, cap, l⟩]); have h2 := edgesY_len l; have h3 := HN.out; simp [allY] at this ⊢; omega) (asc_of (ascOf_asc _)) (fun W y hW => rowcl_any _ a n cap l y W ((BX.out.below hW).cell 0) (HV.out.below (btr (btr (by (repeat (with_reducible first | exact Below.refl _ _ | refine bdr ?_ | refine bdn ?_ _ | refine bal ?_ _))) HB1.out) hW)) HN.out hl HP.out) (fun k hk x y h1 h2 => row_const (asc_of (ascOf_asc _)) (cutting_allY (s := ⟨a, n, cap, l⟩) (by simp)) hk h1 h2) (fun x y h => row_out (asc_of (ascOf_asc _)) (cutting_allY (s := ⟨a, n, cap, l⟩) (by simp)) h)).mono ?_; rintro e w2 ⟨l', h1, h2, v2, rfl, h3, h4⟩))
  go_ret
  refine ⟨l', h1, h2, v2, rfl, own_base h3 ?_, btr (btr (by (repeat (with_reducible first | exact Below.refl _ _ | refine bdr ?_ | refine bdn ?_ _ | refine bal ?_ _))) HB1.out) h4⟩
  have := HB1.out.size
  simp at this
  omega
/-- Which rectangles are those of a valid region. -/
def Vld (l : List Rc) : Prop := l.length ≤ 120 ∧ (∀ q ∈ l, Prp q) ∧ IsCan (inRc l) l
/-- A bool that says whether something holds; nothing older turned. -/
def Says (w : World) (P : Prop) (e : Ending) (w' : World) : Prop := ∃ b : Bool, e = .returned (.bool b) ∧ (b = true ↔ P) ∧ Below w.heap.size w w'
theorem cfRect_vw (a : Option Addr) (n cap : Nat) (l : List Rc) (w : World) (hV : Vw w a (rcCells l)) (hn : l.length = n) (hc : n ≤ 9223372036854775807) :
    Calls Tryz.prog 110 #[.slice a n cap, .func (.func 111) #[] #[]] w fun e w' => e = .returned (.bool (l.any fun q => !decide (Prp q))) ∧ Below w.heap.size w w' := by
  by_cases h : 0 < n
  · exact cfRect_any a n cap l w (rcs_of_vw hV) hn hc h
  · obtain rfl : n = 0 := by omega
    rw [List.length_eq_zero_iff.1 hn]
    exact (cfRect_none a cap _ w).mono fun e w' ⟨he, hw⟩ => by subst hw; exact ⟨he, Below.refl _ _⟩
set_option maxHeartbeats 2000000 in
theorem valid_any (a : Option Addr) (n cap : Nat) (l : List Rc) (w : World) (hV : Vw w a (rcCells l)) (hn : l.length = n) (hc : n ≤ 9223372036854775807) :
    Calls Tryz.prog 91 #[.agg #[.slice a n cap]] w (Says w (Vld l)) := by
  have HV := Lib.hid hV; have HN := Lib.hid hn
  clear hV hn
  by_cases h120 : n ≤ 120
  · have h1 : ¬ (120 : Int) < (n : Int) := by omega
    have d1 : decide ((120 : Int) < (n : Int)) = false := by simpa using h1
    obtain ⟨f, hf⟩ : ∃ f, (l.any fun q => !decide (Prp q)) = f := ⟨_, rfl⟩
    have HF := Lib.hid hf
    clear hf
    cases f with
    | true =>
      go_enter Tryz.func91, Tryz.ntmps91
      go_wp2_with (go_at_call 110; refine (cfRect_vw _ _ _ l _ (HV.out.below (by (repeat (with_reducible first | exact Below.refl _ _ | refine bdr ?_ | refine bdn ?_ _ | refine bal ?_ _)))) HN.out hc).mono ?_; rw [HF.out]; rintro e w1 ⟨rfl, hb1⟩)
      go_ret
      refine ⟨false, rfl, ⟨(fun h => by cases h), fun h => ?_⟩, btr (by (repeat (with_reducible first | exact Below.refl _ _ | refine bdr ?_ | refine bdn ?_ _ | refine bal ?_ _))) hb1⟩
      have := HF.out
      rw [List.any_eq_true] at this
      obtain ⟨q, hq, h3⟩ := this
      simp [h.2.1 q hq] at h3
    | false =>
      have hprp : ∀ q ∈ l, Prp q := fun q hq => by
        have := HF.out
        rw [List.any_eq_false] at this
        simpa using this q hq
      have hlt : ∀ q ∈ l, q.1 < q.2.2.1 := fun q hq => (hprp q hq).2.1
      have HP := Lib.hid hprp; have HLT := Lib.hid hlt
      clear hprp hlt
      go_enter Tryz.func91, Tryz.ntmps91
      go_wp2_with (go_at_call 110; refine (cfRect_vw _ _ _ l _ (HV.out.below (by (repeat (with_reducible first | exact Below.refl _ _ | refine bdr ?_ | refine bdn ?_ _ | refine bal ?_ _)))) HN.out hc).mono ?_; rw [HF.out]; rintro e w1 ⟨rfl, hb1⟩; have BX : Blk w1 w.heap.size 26 #[.slice a n cap] := Blk.below (Blk.fresh rfl) hb1; have x0 : w1.cell? ⟨w.heap.size, 0, none⟩ = some (.slice a n cap) := BX.cell 0; have y0 := BX.lt; have HBX := Lib.hid BX; have HB1 := Lib.hid hb1; clear BX hb1)
      go_region_held3 (fun w' => w'.cell? ⟨w.heap.size, 0, none⟩ = some (.slice a n cap)) (simp [go_sem, *])
        (first
        | (go_at_call 113; refine (canonical_any _ _ _ l _ (HV.out.below (by (repeat (with_reducible first | exact btr (bal (Below.refl _ _) _) HB1.out | exact Below.refl _ _ | refine bdr ?_ | refine bdn ?_ _ | refine bal ?_ _)))) HN.out (by omega) HLT.out).mono ?_; rintro e w2 ⟨l', hcan, hl', v2, rfl, hown2, hb2⟩; obtain ⟨a2, cap2, rfl, hc2, hm2, -⟩ := own_form hown2; have BX2 : Blk w2 w.heap.size 26 #[.slice a n cap] := HBX.out.below (by first | exact hb2 | exact btr (bdr (Below.refl _ _)) hb2); have x2 : w2.cell? ⟨w.heap.size, 0, none⟩ = some (.slice a n cap) := BX2.cell 0; have y2 := BX2.lt)
        | (go_at_call 81; refine (eqRc _ _ _ l' _ _ _ l _ (vw_of_own hown2) rfl (by unfold maxLen at hm2; omega) (HV.out.below (btr (by (repeat (with_reducible first | exact btr (bal (Below.refl _ _) _) HB1.out | exact Below.refl _ _ | refine bdr ?_ | refine bdn ?_ _ | refine bal ?_ _))) hb2)) HN.out hc).mono ?_; rintro e w3 ⟨rfl, q3, rfl⟩))
      all_goals
        go_wp2
        go_ret
        refine ⟨_, rfl, ?_, (by (repeat (with_reducible first | exact btr (bdr (btr (bal (Below.refl _ _) _) HB1.out)) hb2 | exact Below.refl _ _ | refine bdr ?_ | refine bdn ?_ _ | refine bal ?_ _)))⟩
        rw [decide_eq_true_eq]
        exact ⟨fun e => ⟨by rw [HN.out]; exact h120, HP.out, by rw [← e]; exact (IsCan.congr hcan fun x y => by rw [e])⟩, fun h => hcan.uniq h.2.2⟩
  · have h1 : (120 : Int) < (n : Int) := by omega
    go_enter Tryz.func91, Tryz.ntmps91
    go_wp2
    go_ret
    exact ⟨false, rfl, ⟨(fun h => by cases h), fun h => absurd h.1 (by rw [HN.out]; exact h120)⟩, (by (repeat (with_reducible first | exact Below.refl _ _ | refine bdr ?_ | refine bdn ?_ _ | refine bal ?_ _)))⟩
end Go.Proofs.YtglhenobodndjaaGreatDoor
