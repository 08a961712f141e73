/- The events of the law on limits: day, close, and the example of the chapter: read from their lines, and their lines written. -/
import Derived.Test.YtglhenobodndjaaGreatDoorLine
import Derived.Test.YtglhenobodndjaaGreatDoorParse
namespace Go.Proofs.YtglhenobodndjaaGreatDoor
open Go.RowKit
set_option linter.unusedVariables false
set_option linter.unusedSimpArgs false

def dayE (d : Int) : Ev := ⟨1, d, 0, 0, 0, 0, 0, 0, 0, 0, 0, 0, 0, 0, 0, 0, 0, 0, 0, 0⟩
def closeE : Ev := ⟨8, 0, 0, 0, 0, 0, 0, 0, 0, 0, 0, 0, 0, 0, 0, 0, 0, 0, 0, 0⟩
def yieldE : Ev := ⟨4, 0, 3, 0, 0, 0, 0, 0, 0, 0, 0, 0, 0, 0, 0, 0, 0, 0, 0, 0⟩
def rect1 : List Rc := [(0, 0, 2, 2)]
/-- The cells of an event without rectangles. -/
def lightL (e : Ev) : List Value := [.int .i64 e.kind, .int .i64 e.day, .int .i64 e.farm, .int .i64 e.parcel, .int .i64 e.line, .int .i64 e.what, .slice none 0 0, .slice none 0 0, .int .i64 e.slope, .slice none 0 0, .int .i64 e.party, .int .u64 e.seed, .int .u64 e.salt, .int .i64 e.area, .int .i64 e.border,
    .int .i64 e.a0, .int .i64 e.a1, .int .i64 e.a2, .int .i64 e.a3, .int .i64 e.a4, .int .i64 e.a5, .int .i64 e.a6, .int .i64 e.a7]
theorem lightL_eq (e : Ev) : (lightL e).toArray = e.cells (.slice none 0 0) (.slice none 0 0) (.slice none 0 0) := rfl
theorem light_ok (e : Ev) (s : ByteArray) : evOk (lightL e, s) := ⟨rfl, by rw [lightL_eq]; exact ev_one e none 0 0⟩
theorem rect1_vld : Vld rect1 := by
  refine ⟨by decide, fun q hq => ?_, ?_⟩
  · simp only [rect1, List.mem_cons, List.not_mem_nil, or_false] at hq
    subst hq
    unfold Prp; decide
  · refine IsCan.self (S := inBd [(0, 2, [(0, 2)])]) ⟨[(0, 2, [(0, 2)])], ⟨by decide, by simp, ⟨by decide, by simp, trivial⟩, by simp, by simp, trivial⟩, rfl, fun x y => Iff.rfl⟩
def dayW : ByteArray := ⟨#[100, 97, 121]⟩
def closeW : ByteArray := ⟨#[99, 108, 111, 115, 101]⟩
def yieldW : ByteArray := ⟨#[121, 105, 101, 108, 100]⟩
/-- Reading. -/
theorem ev_day (w : World) (hS : w.ShapedOpen Tryz.prog) (d : Nat) (hd : d < 100) (s : ByteArray) (hs : s.size ≤ 100000000) (hsp : Lib.splitB sp1 0 (Lib.countB s sp1) s = [dayW, digs d]) : EvAt w (lightL (dayE d)) s := fun W hW => by
  refine (event_any W s dayW [digs d] [] false 1 (fun _ cs => cs = (lightL (dayE d)).toArray) (shaped_below hS hW) hs hsp (by decide) (by decide) ?_).mono ?_
  · intro W' rb nb eb hB h1 h2 h3 h4 h5 h6 hR hE
    refine (rfields_day W W' rb nb eb (evK 1) (.int .i64 0) [digs d] false (d, true) hB hR h3 hE rfl rfl h5 h6 (num_small W d hd)).mono ?_
    rintro e w' ⟨rfl, hr, hb, hk⟩
    exact ⟨rfl, (lightL (dayE d)).toArray, rfl, (light_ok (dayE d) s).2, hr, hb, rfl, hk⟩
  · rintro e w' ⟨hb, h⟩
    obtain ⟨cs, w1, rfl, -, rfl, -⟩ := h
    exact ⟨rfl, hb⟩
theorem ev_close (w : World) (hS : w.ShapedOpen Tryz.prog) : EvAt w (lightL closeE) closeW := fun W hW => by
  refine (event_any W closeW closeW [] [] false 8 (fun _ cs => cs = (lightL closeE).toArray) (shaped_below hS hW) (by decide) (by decide +kernel) (by decide) (by decide) ?_).mono ?_
  · intro W' rb nb eb hB h1 h2 h3 h4 h5 h6 hR hE
    refine (wfields_none W' _ eb (evK 8) 8 hE rfl (.inl rfl)).mono ?_
    rintro e w' ⟨rfl, rfl⟩
    exact ⟨rfl, (lightL closeE).toArray, rfl, (light_ok closeE closeW).2, hR, hE, rfl, Kept.refl _ _⟩
  · rintro e w' ⟨hb, h⟩
    obtain ⟨cs, w1, rfl, -, rfl, -⟩ := h
    exact ⟨rfl, hb⟩
/-- Writing. -/
theorem wf_day (w : World) (d : Nat) (hd : d < 100) : WFieldsAt w (dayE d) [] dayW [digs d] := fun W wb eb v a c hB hWr hwb hE hV hne hva => by
  refine (wfields_day w W wb [dayW] false v eb _ d (digs d) hB hWr hwb hE rfl rfl hne (dec_small w d hd) (by simp)).mono ?_
  rintro e w' ⟨rfl, h⟩
  refine ⟨rfl, ?_⟩
  have : (false || !inNum (d : Int)) = false := by simp [inNum]; omega
  rw [this] at h
  exact h
theorem wf_close (w : World) : WFieldsAt w closeE [] closeW [] := fun W wb eb v a c hB hWr hwb hE hV hne hva => by
  refine (wfields_none W _ eb _ 8 hE rfl (.inl rfl)).mono ?_
  rintro e w' ⟨rfl, rfl⟩
  exact ⟨rfl, .of hWr⟩
theorem back_light (w : World) (e : Ev) (s : ByteArray) (h : EvAt w (lightL e) s) : BackAt w e [] s := fun W hW => by
  refine (h W hW).mono ?_
  rintro x w' ⟨rfl, hb⟩
  exact ⟨none, 0, rfl, Vw.nil _ _, hb⟩
theorem line_day (w : World) (hS : w.ShapedOpen Tryz.prog) (d : Nat) (hd : d < 100) (s : ByteArray) (hs : s.size ≤ 100000000) (hsp : Lib.splitB sp1 0 (Lib.countB s sp1) s = [dayW, digs d]) (hj : (⟨(Lib.join ([dayW, digs d].map (·.data.toList)) [32]).toArray⟩ : ByteArray) = s) : LineAt w (lightL (dayE d)) s := fun W hW =>
  line_ok W (dayE d) none 0 [] 1 dayW [digs d] s (Vw.nil _ _) (.inl rfl) (fun _ => rfl) (by decide) rfl (by decide) (by decide) rfl (by simp) (wf_day W d hd) (back_light W _ s (ev_day W (shaped_below hS hW) d hd s hs hsp)) hj hs
theorem line_close (w : World) (hS : w.ShapedOpen Tryz.prog) : LineAt w (lightL closeE) closeW := fun W hW =>
  line_ok W closeE none 0 [] 8 closeW [] closeW (Vw.nil _ _) (.inl rfl) (fun _ => rfl) (by decide) rfl (by decide) (by decide) rfl (by decide) (wf_close W) (back_light W _ _ (ev_close W (shaped_below hS hW))) (by decide +kernel) (by decide)
/-- The example of the chapter. -/
def yieldS : ByteArray := ⟨#[121, 105, 101, 108, 100, 32, 51, 32, 48, 32, 49, 32, 48, 32, 48, 32, 50, 32, 50]⟩
def nvS (s : ByteArray) : Int × Bool := ((Lib.atoi s.data.toList).getD 0, true)
def txS (x : Int) : ByteArray := digs x.toNat
theorem num_nv (w : World) (i : Nat) (hi : i < 100) : NumAt w (digs i) (nvS (digs i)) := by
  have h := (atoi_digs ⟨i, hi⟩).1
  have hs : (digs i).data.toList = Lib.decDigits i := by simp [digs]
  have : nvS (digs i) = ((i : Int), true) := by unfold nvS; rw [hs, h]; rfl
  rw [this]; exact num_small w i hi
def yWs : List ByteArray := [digs 3, digs 0, digs 1, digs 0, digs 0, digs 2, digs 2]
theorem yNum (w : World) : ∀ i, i < 7 → NumAt w (wordAt yWs i) (nvS (wordAt yWs i))
  | 0, _ => num_nv w 3 (by decide)
  | 1, _ => num_nv w 0 (by decide)
  | 2, _ => num_nv w 1 (by decide)
  | 3, _ => num_nv w 0 (by decide)
  | 4, _ => num_nv w 0 (by decide)
  | 5, _ => num_nv w 2 (by decide)
  | 6, _ => num_nv w 2 (by decide)
def YldP (w : World) (x : Ending) (w' : World) : Prop := ∃ g c, x = .returned (.tuple #[.agg (yieldE.cells (.slice none 0 0) (.slice (some ⟨g, 0, none⟩) 1 c) (.slice none 0 0)), .bool true]) ∧ Vw w' (some ⟨g, 0, none⟩) (rcCells rect1) ∧ Below w.heap.size w w'
theorem yd1 : rdLen nvS (false || rdFail nvS yWs 2) (yWs.drop 2) 120 = ((1 : Nat) : Int) := by decide +kernel
theorem yd2 : rdRects nvS ((yWs.drop 2).drop 1) 1 = rect1 := by decide +kernel
theorem yd3 : rdVals nvS yWs [2, 4] = [(2, 3), (4, 0)] := by decide +kernel
theorem yd4 : (lenFail (false || rdFail nvS yWs 2) (yWs.drop 2) (nvS (wordAt (yWs.drop 2) 0)) 120 || rdFail nvS ((yWs.drop 2).drop 1) (4 * 1)) = false := by decide +kernel
theorem ev_yield (w : World) (hS : w.ShapedOpen Tryz.prog) : Calls Tryz.prog 17 #[.string yieldS] w (YldP w) := by
  refine (event_any w yieldS yieldW yWs [] false 4 (fun w' cs => ∃ g c, cs = yieldE.cells (.slice none 0 0) (.slice (some ⟨g, 0, none⟩) 1 c) (.slice none 0 0) ∧ Vw w' (some ⟨g, 0, none⟩) (rcCells rect1) ∧ w.heap.size < g) hS (by decide) (by decide +kernel) (by decide) (by decide) ?_).mono ?_
  · intro W' rb nb eb hB h1 h2 h3 h4 h5 h6 hR hE
    refine (rfields_yield w W' rb nb eb (evK 4) nvS yWs false 1 hB hR h3 h4 h2 hE rfl rfl (by decide) h5 h6 yd1 (by decide) (fun i hi => yNum w i (by omega))).mono ?_
    rintro e w' ⟨rfl, w1, hk1, ⟨b, a, c, hb, hr, he, hv, hc1, hc2, ha⟩, hk2⟩
    have hsz := hE.lt
    have hsz1 := hk1.size
    rw [yd2] at hb hv
    obtain rfl : b = true := hb.2 rect1_vld
    rw [yd4] at hr
    rw [yd3] at he
    rcases ha with ⟨rfl, rfl⟩ | ⟨g, rfl, hg, -, -⟩
    · omega
    · exact ⟨rfl, yieldE.cells (.slice none 0 0) (.slice (some ⟨g, 0, none⟩) 1 c) (.slice none 0 0), rfl, ev_one yieldE _ 1 c, hr, he, ⟨g, c, rfl, hv, by omega⟩, hk1.trans hk2 fun _ _ h => h⟩
  · rintro e w' ⟨hb, h⟩
    obtain ⟨cs, w1, rfl, -, ⟨g, c, rfl, hv, hg⟩, hk, -⟩ := h
    exact ⟨g, c, rfl, hk.vw hv (fun b off e => by cases e; omega), hb⟩
theorem wf_yield (w : World) : WFieldsAt w yieldE rect1 yieldW yWs := fun W wb eb v a c hB hWr hwb hE hV hne hva => by
  refine (wfields_yield w W wb [yieldW] false v eb _ 3 0 a 1 c rect1 txS hB hWr hwb hE rfl rfl rfl rfl hne hV rfl (by decide) hva ⟨dec_small w 3 (by decide), dec_small w 0 (by decide)⟩ ⟨dec_small w 1 (by decide), fun q hq => ?_⟩ (by decide)).mono ?_
  · simp only [rect1, List.mem_cons, List.not_mem_nil, or_false] at hq
    subst hq
    exact ⟨dec_small w 0 (by decide), dec_small w 0 (by decide), dec_small w 2 (by decide), dec_small w 2 (by decide)⟩
  · rintro e w' ⟨rfl, b, hb, h⟩
    obtain rfl : b = true := hb.2 rect1_vld
    exact ⟨rfl, h⟩
theorem back_yield (w : World) (hS : w.ShapedOpen Tryz.prog) : BackAt w yieldE rect1 yieldS := fun W hW => by
  refine (ev_yield W (shaped_below hS hW)).mono ?_
  rintro x w' ⟨g, c, rfl, hv, hb⟩
  exact ⟨_, c, rfl, hv, hb⟩
theorem line_yield (w : World) (hS : w.ShapedOpen Tryz.prog) (g c : Nat) (hV : Vw w (some ⟨g, 0, none⟩) (rcCells rect1)) : Calls Tryz.prog 12 #[.agg (yieldE.cells (.slice none 0 0) (.slice (some ⟨g, 0, none⟩) 1 c) (.slice none 0 0))] w fun e w' => e = .returned (.tuple #[.string yieldS, .bool true]) ∧ Below w.heap.size w w' :=
  line_ok w yieldE (some ⟨g, 0, none⟩) c rect1 4 yieldW yWs yieldS hV (.inr ⟨g, 0, rfl⟩) nofun (by decide) rfl (by decide) (by decide) rfl (by decide) (wf_yield w) (back_yield w hS) (by decide +kernel) (by decide)
end Go.Proofs.YtglhenobodndjaaGreatDoor
