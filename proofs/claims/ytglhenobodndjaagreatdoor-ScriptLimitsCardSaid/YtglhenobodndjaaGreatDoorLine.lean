/- script.Line of a light event, by what fields and Event do. -/
import Derived.Test.YtglhenobodndjaaGreatDoorSame
import Derived.Test.YtglhenobodndjaaGreatDoorSt
namespace Go.Proofs.YtglhenobodndjaaGreatDoor
open Go.RowKit
set_option linter.unusedVariables false
set_option linter.unusedSimpArgs false

/-- What fields does with the writer on a light event. -/
def WFieldsAt (w : World) (e : Ev) (l : List Rc) (nm : ByteArray) (ws : List ByteArray) : Prop :=
  ∀ (W : World) (wb eb : Nat) (v : Value) (a : Option Addr) (c : Nat), Below w.heap.size w W → Wr W wb w.heap.size [nm] false v → w.heap.size ≤ wb → Blk W eb 36 (e.cells (.slice none 0 0) (.slice a l.length c) (.slice none 0 0)) → Vw W a (rcCells l) → ¬ wrS wb v eb →
    (∀ b off, a = some ⟨b, off, none⟩ → ¬ wrS wb v b ∧ b < W.heap.size) →
    Calls Tryz.prog 32 #[.iface 74 (.pointer (some ⟨wb, 0, none⟩)), .pointer (some ⟨eb, 0, none⟩)] W fun e w' => e = .returned (.tuple #[]) ∧ WrS W wb w.heap.size v ([nm] ++ ws) false w'
/-- What Event does with the line. -/
def BackAt (w : World) (e : Ev) (l : List Rc) (s : ByteArray) : Prop :=
  ∀ W : World, Below w.heap.size w W → Calls Tryz.prog 17 #[.string s] W fun x w' => ∃ a c, x = .returned (.tuple #[.agg (e.cells (.slice none 0 0) (.slice a l.length c) (.slice none 0 0)), .bool true]) ∧ Vw w' a (rcCells l) ∧ Below W.heap.size W w'
/-- Behind the writer made. -/
def LineA (W0 : World) (B : Nat) (nm : ByteArray) (p : Value) (wx : World) : Prop := ∃ wb v, p = .pointer (some ⟨wb, 0, none⟩) ∧ Wr wx wb B [nm] false v ∧ W0.heap.size ≤ wb ∧ (∀ g, v.ownBlock = some g → W0.heap.size ≤ g) ∧ Below W0.heap.size W0 wx
theorem wr_new {wx : World} {g wb B : Nat} {nm : ByteArray} (hs : Blk wx g 9 #[.string nm]) (hb : Blk wx wb 77 #[.slice (some ⟨g, 0, none⟩) 1 1, .bool false]) (hB : B ≤ g) : Wr wx wb B [nm] false (.slice (some ⟨g, 0, none⟩) 1 1) :=
  ⟨hb, ⟨rfl, .inr ⟨g, 1, #[.string nm], rfl, hB, hs, Nat.le_refl _, by unfold maxLen; decide, rfl, rfl⟩⟩, by simp⟩
theorem names_blk (w : World) : Calls Tryz.prog 30 #[] w fun e w' => e = .returned (.slice (some ⟨w.heap.size, 0, none⟩) 18 18) ∧ Blk w' w.heap.size 9 (namesL.map Value.string).toArray ∧ Below w.heap.size w w' :=
  (names_any w).mono fun e w' h => ⟨h.1, h.2 ▸ Blk.new w _ _, h.2 ▸ bal (Below.refl _ _) _⟩
theorem wr_head {w : World} {wb B : Nat} {nm : ByteArray} {ws : List ByteArray} {f : Bool} {v : Value} (h : Wr w wb B (nm :: ws) f v) : ∃ g cap, v = .slice (some ⟨g, 0, none⟩) (ws.length + 1) cap ∧ ws.length + 1 ≤ cap ∧ g < w.heap.size ∧ ∀ j x, (nm :: ws)[j]? = some x → w.cell? ⟨g, 0 + j, none⟩ = some (.string x) := by
  obtain ⟨g, cap, rfl, h1, -, -, h2⟩ := own_some (by simpa using h.own : w.ownsRow B _ 1 v (ws.length + 1) (strCells (nm :: ws)))
  refine ⟨g, cap, rfl, h1, h2, fun j x hj => ?_⟩
  obtain ⟨b, off, e, hc⟩ := vw_of_own (by simpa using h.own : w.ownsRow B _ 1 (.slice (some ⟨g, 0, none⟩) (ws.length + 1) cap) (ws.length + 1) (strCells (nm :: ws))) j (.string x) (by rw [strCells, List.getElem?_map, hj]; rfl)
  cases e
  exact hc
theorem ev_one (e : Ev) (a : Option Addr) (n c : Nat) : (e.cells (.slice none 0 0) (.slice a n c) (.slice none 0 0)).all (·.oneCell') = true := by unfold Ev.cells; rw [List.all_toArray]; rfl
set_option maxRecDepth 100000 in
set_option maxHeartbeats 8000000 in
theorem line_ok (w : World) (e : Ev) (a : Option Addr) (c : Nat) (l : List Rc) (k : Nat) (nm : ByteArray) (ws : List ByteArray) (s : ByteArray) (hV : Vw w a (rcCells l)) (ha : Pl a) (h0 : a = none → l.length = 0) (hm : l.length ≤ 1000000)
    (hk : e.kind = (k : Int)) (hk1 : 1 ≤ k) (hk2 : k ≤ 17) (hnm : namesL[k]? = some nm) (hwl : ws.length ≤ 1000000) (hF : WFieldsAt w e l nm ws) (hB : BackAt w e l s)
    (hs : (⟨(Lib.join ((nm :: ws).map (·.data.toList)) [32]).toArray⟩ : ByteArray) = s) (hsl : s.size ≤ 100000000) :
    Calls Tryz.prog 12 #[.agg (e.cells (.slice none 0 0) (.slice a l.length c) (.slice none 0 0))] w fun x w' => x = .returned (.tuple #[.string s, .bool true]) ∧ Below w.heap.size w w' := by
  have CLN : RowKit.Hid (∀ W, Below w.heap.size w W → Calls Tryz.prog 31 #[.agg (e.cells (.slice none 0 0) (.slice a l.length c) (.slice none 0 0))] W fun x w' => ∃ v, x = .returned (.agg (e.cells (.slice none 0 0) v (.slice none 0 0))) ∧ w'.ownsRow W.heap.size 73 4 v l.length (rcCells l) ∧ Below W.heap.size W w') := fun W hW =>
    clone_light e a l.length c l W (hV.below hW) ha rfl h0 hm
  have HF := Lib.hid hF; have HB := Lib.hid hB; have HV := Lib.hid hV; have HS := Lib.hid hs; have HNM := Lib.hid hnm
  have hsz : ∀ W : World, (namesL.map Value.string).toArray[k]? = some (.string nm) := fun _ => by
    have h := HNM.out
    simp [List.getElem?_map, h]
  have q1 : ¬ (k : Int) < 1 := by omega
  have q2 : ¬ (k : Int) > 17 := by omega
  have q3 : ¬ (17 : Int) < (k : Int) := by omega
  have q4 : (0 : Int) ≤ (k : Int) := by omega
  have q5 : (k : Int) < 18 := by omega
  clear hF hB hV hs hnm
  obtain ⟨e0, e1, e2, e3, e4, e5, e8, e10, e11, e12, e13, e14, e15, e16, e17, e18, e19, e20, e21, e22⟩ := e
  dsimp only at hk
  subst hk
  simp only [Ev.cells] at CLN ⊢
  go_enter Tryz.func12, Tryz.ntmps12
  go_wp2
  have BE : Blk (w.alloc (.cells #[.int .i64 k, .int .i64 e1, .int .i64 e2, .int .i64 e3, .int .i64 e4, .int .i64 e5, .slice none 0 0, .slice a l.length c, .int .i64 e8, .slice none 0 0, .int .i64 e10, .int .u64 e11, .int .u64 e12, .int .i64 e13, .int .i64 e14, .int .i64 e15, .int .i64 e16, .int .i64 e17, .int .i64 e18, .int .i64 e19, .int .i64 e20, .int .i64 e21, .int .i64 e22] 36)) w.heap.size _ _ := Blk.new w _ _
  have bb0 : Below w.heap.size w (w.alloc (.cells #[.int .i64 k, .int .i64 e1, .int .i64 e2, .int .i64 e3, .int .i64 e4, .int .i64 e5, .slice none 0 0, .slice a l.length c, .int .i64 e8, .slice none 0 0, .int .i64 e10, .int .u64 e11, .int .u64 e12, .int .i64 e13, .int .i64 e14, .int .i64 e15, .int .i64 e16, .int .i64 e17, .int .i64 e18, .int .i64 e19, .int .i64 e20, .int .i64 e21, .int .i64 e22] 36)) := bal (Below.refl _ _) _
  obtain ⟨W0, hW0⟩ : ∃ W0, w.alloc (.cells #[.int .i64 k, .int .i64 e1, .int .i64 e2, .int .i64 e3, .int .i64 e4, .int .i64 e5, .slice none 0 0, .slice a l.length c, .int .i64 e8, .slice none 0 0, .int .i64 e10, .int .u64 e11, .int .u64 e12, .int .i64 e13, .int .i64 e14, .int .i64 e15, .int .i64 e16, .int .i64 e17, .int .i64 e18, .int .i64 e19, .int .i64 e20, .int .i64 e21, .int .i64 e22] 36) = W0 := ⟨_, rfl⟩
  rw [hW0] at BE bb0 ⊢
  have x0 : W0.cell? ⟨w.heap.size, 0, none⟩ = some (.int .i64 k) := BE.cell 0
  have y0 := BE.lt
  have HBE := Lib.hid BE; have HB0 := Lib.hid bb0
  clear hW0 BE bb0
  have HSZ := Lib.hid hsz
  clear hsz
  go_cut [4] (fun p wx => LineA W0 w.heap.size nm p wx)
  case first =>
    go_region_with
      (first
      | (go_at_call 30; refine (names_blk _).mono ?_; rintro e w2 ⟨rfl, hbn, hb2⟩; have B2 : Below W0.heap.size W0 w2 := btr (by (repeat (with_reducible first | exact Below.refl _ _ | refine bdr ?_ | refine bdn ?_ _ | refine bal ?_ _))) hb2; have x2 := bc1 B2 x0; have dn : w2.cell? ⟨W0.heap.size, k, none⟩ = some (.string nm) := (hbn.cell k).trans (HSZ.out w); have y2 := World.block_lt_of_cell? w2 _ x2; have yn : W0.heap.size < w2.heap.size := hbn.lt))
    all_goals (go_wp2_with fail)
    all_goals go_meet
    all_goals
      have l2 := B2.size
      have l0 := HB0.out.size
      refine ⟨_, _, rfl, wr_new (g := w2.heap.size) ?_ ?_ (by omega), by first | omega | (simp; omega), fun g hg => by simp [Value.ownBlock] at hg; omega, (by (repeat (with_reducible first | exact B2 | exact Below.refl _ _ | refine bdr ?_ | refine bdn ?_ _ | refine bal ?_ _)))⟩
      · first | exact (Blk.new _ _ _).below (by (repeat (with_reducible first | exact Below.refl _ _ | refine bdr ?_ | refine bdn ?_ _ | refine bal ?_ _))) | exact ((Blk.new _ _ _).below (by (repeat (with_reducible first | exact Below.refl _ _ | refine bdr ?_ | refine bdn ?_ _ | refine bal ?_ _)))).drew
      · first | exact Blk.fresh (by simp) | exact (Blk.fresh (by simp)).drew
  case rest =>
    obtain ⟨wb, v, rfl, hwr, hwb, hvo, hb1⟩ := hcut
    have BE1 := HBE.out.below hb1
    have HBE1 := Lib.hid BE1; have HWR := Lib.hid hwr; have HB1 := Lib.hid (btr HB0.out hb1 : Below w.heap.size w wc)
    have y1 := BE1.lt
    have yw := hwr.blk.lt
    clear BE1 hwr hb1
    go_wp2_with (first
      | (refine wpList_load_row rfl 36 (.tmp 1) rfl w.heap.size rfl _ _ _ _ HBE1.out Tryz.underlying36 rfl evInfo ?_)
      | (go_at_call 31; refine (CLN.out _ HB1.out).mono ?_; rintro e w3 ⟨v3, rfl, ho3, hb3⟩; obtain ⟨a3, c3, rfl, -, -, -⟩ := own_form ho3)
      | (refine st_new rfl 36 (.tmp 5) (.tmp 26) rfl #[.int .i64 k, .int .i64 e1, .int .i64 e2, .int .i64 e3, .int .i64 e4, .int .i64 e5, .slice none 0 0, .slice a3 l.length c3, .int .i64 e8, .slice none 0 0, .int .i64 e10, .int .u64 e11, .int .u64 e12, .int .i64 e13, .int .i64 e14, .int .i64 e15, .int .i64 e16, .int .i64 e17, .int .i64 e18, .int .i64 e19, .int .i64 e20, .int .i64 e21, .int .i64 e22] _ _ rfl rfl evInfo rfl (ev_one ⟨k, e1, e2, e3, e4, e5, e8, e10, e11, e12, e13, e14, e15, e16, e17, e18, e19, e20, e21, e22⟩ a3 l.length c3) ?_))
    obtain ⟨W4, hW4⟩ : ∃ W4, w3.alloc (.cells #[.int .i64 k, .int .i64 e1, .int .i64 e2, .int .i64 e3, .int .i64 e4, .int .i64 e5, .slice none 0 0, .slice a3 l.length c3, .int .i64 e8, .slice none 0 0, .int .i64 e10, .int .u64 e11, .int .u64 e12, .int .i64 e13, .int .i64 e14, .int .i64 e15, .int .i64 e16, .int .i64 e17, .int .i64 e18, .int .i64 e19, .int .i64 e20, .int .i64 e21, .int .i64 e22] 36) = W4 := ⟨_, rfl⟩
    have b4 : Below wc.heap.size wc W4 := hW4 ▸ bal hb3 _
    have BE4 : Blk W4 w3.heap.size 36 #[.int .i64 k, .int .i64 e1, .int .i64 e2, .int .i64 e3, .int .i64 e4, .int .i64 e5, .slice none 0 0, .slice a3 l.length c3, .int .i64 e8, .slice none 0 0, .int .i64 e10, .int .u64 e11, .int .u64 e12, .int .i64 e13, .int .i64 e14, .int .i64 e15, .int .i64 e16, .int .i64 e17, .int .i64 e18, .int .i64 e19, .int .i64 e20, .int .i64 e21, .int .i64 e22] := hW4 ▸ Blk.new _ _ _
    have VW4 : Vw W4 a3 (rcCells l) := hW4 ▸ (vw_of_own ho3).alloc _
    have s4 : W4.heap.size = w3.heap.size + 1 := by rw [← hW4]; simp
    rw [hW4]
    clear hW4
    have s3 := hb3.size
    have s0 := HB0.out.size
    have hwb' : w.heap.size ≤ wb := by omega
    have hne : ¬ wrS wb v w3.heap.size := fun c => by
      rcases c with c | c
      · omega
      · have := (HWR.out.own.lt _ c).2; omega
    have hva : ∀ b off, a3 = some ⟨b, off, none⟩ → ¬ wrS wb v b ∧ b < W4.heap.size := fun b off hb => by
      have h := ho3.lt b (by rw [hb]; rfl)
      refine ⟨fun c => ?_, by omega⟩
      rcases c with c | c
      · omega
      · have := (HWR.out.own.lt _ c).2; omega
    have CF := HF.out W4 wb w3.heap.size v a3 c3 (btr HB1.out b4) (HWR.out.behind b4) hwb' BE4 VW4 hne hva
    have HCF := Lib.hid CF; have HB4 := Lib.hid b4; have HW4 := Lib.hid (HWR.out.behind b4)
    have hn1 : ¬ wrS wb v w.heap.size := fun c => by
      rcases c with c | c
      · omega
      · have := hvo _ c; omega
    have HN1 := Lib.hid hn1
    clear CF b4 BE4 VW4 ho3 hb3 hva hne hn1 hvo
    go_wp2_with fail
    refine HCF.out.mono ?_
    rintro e w5 ⟨rfl, hs5⟩
    obtain ⟨v5, hwr5, hfr5, hk5⟩ := hs5.openS
    obtain ⟨g5, cap5, rfl, hcap5, hg5, hc5⟩ := wr_head (nm := nm) (ws := ws) hwr5
    have hlen5 : (nm :: ws).length = ws.length + 1 := rfl
    have hjl : (Lib.join ((nm :: ws).map (·.data.toList)) [32]).length ≤ 140737488355328 := by
      have h := HS.out
      have : (Lib.join ((nm :: ws).map (·.data.toList)) [32]).length = s.size := by rw [← h]; simp [ByteArray.size]
      omega
    have CJ := Tryz.strings_Join g5 0 cap5 (nm :: ws) ⟨#[32]⟩ w5 hc5 hg5 (by rw [hlen5]; omega) (by rw [hlen5]; omega) hjl
    rw [show (⟨#[32]⟩ : ByteArray).data.toList = [32] from rfl, HS.out, hlen5] at CJ
    have HCJ := Lib.hid CJ
    have B5 : Below w.heap.size w w5 := below_kept (btr HB1.out HB4.out) hk5 (wrS_ge HW4.out hwb')
    have BE5 := hk5.blk (HBE1.out.below HB4.out) HN1.out
    have z0 : w5.cell? ⟨wb, 0, none⟩ = some (.slice (some ⟨g5, 0, none⟩) (ws.length + 1) cap5) := hwr5.blk.cell 0
    have z1 : w5.cell? ⟨wb, 1, none⟩ = some (.bool false) := hwr5.blk.cell 1
    have y5 := hwr5.blk.lt
    have HB5 := Lib.hid B5; have HBE5 := Lib.hid BE5
    have s5 := BE5.lt
    clear CJ hc5 hwr5 hk5 hs5 B5 BE5 hfr5 hjl hlen5
    go_wp2_with (first
      | (go_at_call 33; refine HCJ.out.mono ?_; rintro e w6 ⟨rfl, hb6⟩; have HB6 := Lib.hid hb6; have HB06 := Lib.hid (btr HB5.out hb6))
      | (go_at_call 17; refine (HB.out _ HB06.out).mono ?_; rintro e w7 ⟨a7, c7, rfl, hv7, hb7⟩; have HB7 := Lib.hid hb7; have HV7 := Lib.hid hv7; have s7 := hb7.size; have HB67 := Lib.hid (btr hb6 hb7); have z7 : (w7.alloc (.cells #[.int .i64 k, .int .i64 e1, .int .i64 e2, .int .i64 e3, .int .i64 e4, .int .i64 e5, .slice none 0 0, .slice a7 l.length c7, .int .i64 e8, .slice none 0 0, .int .i64 e10, .int .u64 e11, .int .u64 e12, .int .i64 e13, .int .i64 e14, .int .i64 e15, .int .i64 e16, .int .i64 e17, .int .i64 e18, .int .i64 e19, .int .i64 e20, .int .i64 e21, .int .i64 e22] 36)).cell? ⟨wb, 1, none⟩ = some (.bool false) := bc1 (bal HB67.out _) z1)
      | (refine st_new rfl 36 (.tmp 7) (.tmp 38) rfl #[.int .i64 k, .int .i64 e1, .int .i64 e2, .int .i64 e3, .int .i64 e4, .int .i64 e5, .slice none 0 0, .slice a7 l.length c7, .int .i64 e8, .slice none 0 0, .int .i64 e10, .int .u64 e11, .int .u64 e12, .int .i64 e13, .int .i64 e14, .int .i64 e15, .int .i64 e16, .int .i64 e17, .int .i64 e18, .int .i64 e19, .int .i64 e20, .int .i64 e21, .int .i64 e22] _ _ rfl rfl evInfo rfl (ev_one ⟨k, e1, e2, e3, e4, e5, e8, e10, e11, e12, e13, e14, e15, e16, e17, e18, e19, e20, e21, e22⟩ a7 l.length c7) ?_)
      | (refine ld_row_w rfl 36 (.tmp 7) rfl w7.heap.size rfl _ #[.int .i64 k, .int .i64 e1, .int .i64 e2, .int .i64 e3, .int .i64 e4, .int .i64 e5, .slice none 0 0, .slice a7 l.length c7, .int .i64 e8, .slice none 0 0, .int .i64 e10, .int .u64 e11, .int .u64 e12, .int .i64 e13, .int .i64 e14, .int .i64 e15, .int .i64 e16, .int .i64 e17, .int .i64 e18, .int .i64 e19, .int .i64 e20, .int .i64 e21, .int .i64 e22] _ _ (heap_alloc_new _ _) Tryz.underlying36 rfl evInfo ?_)
      | (refine ld_row_w rfl 36 (.tmp 1) rfl w.heap.size rfl _ #[.int .i64 k, .int .i64 e1, .int .i64 e2, .int .i64 e3, .int .i64 e4, .int .i64 e5, .slice none 0 0, .slice a l.length c, .int .i64 e8, .slice none 0 0, .int .i64 e10, .int .u64 e11, .int .u64 e12, .int .i64 e13, .int .i64 e14, .int .i64 e15, .int .i64 e16, .int .i64 e17, .int .i64 e18, .int .i64 e19, .int .i64 e20, .int .i64 e21, .int .i64 e22] _ _ (HBE5.out.below (bal HB67.out _)) Tryz.underlying36 rfl evInfo ?_)
      | (go_at_call 14; refine (same_eq ⟨k, e1, e2, e3, e4, e5, e8, e10, e11, e12, e13, e14, e15, e16, e17, e18, e19, e20, e21, e22⟩ a7 l.length c7 a l.length c l _ (HV7.out.alloc _) rfl hm ((HV.out.below (btr HB5.out HB67.out)).alloc _) rfl).mono ?_; rintro e w8 ⟨rfl, hb8⟩))
    go_ret2
    refine ⟨rfl, ?_⟩
    exact btr (HB5.out) (btr (bal HB67.out _) hb8)
end Go.Proofs.YtglhenobodndjaaGreatDoor
