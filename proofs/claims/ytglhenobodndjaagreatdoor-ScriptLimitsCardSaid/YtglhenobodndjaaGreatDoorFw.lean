/- script.fields with the writer, kinds day, yield, close. -/
import Derived.Test.YtglhenobodndjaaGreatDoorEv
namespace Go.Proofs.YtglhenobodndjaaGreatDoor
open Go.RowKit
set_option linter.unusedVariables false
set_option linter.unusedSimpArgs false

theorem nil_wnumber (a : Addr) (w : World) : (nilAhead 364 74 (.pointer (some a)) "landaid/script.number").run Tryz.prog w = .ok (some false) w := by kernel_rfl
set_option maxRecDepth 100000 in
set_option maxHeartbeats 4000000 in
theorem wfields_day (w0 w : World) (wb : Nat) (ws : List ByteArray) (f : Bool) (v : Value) (eb : Nat) (cs : Array Value) (x : Int) (s : ByteArray) (hw : Below w0.heap.size w0 w) (h : Wr w wb w0.heap.size ws f v) (hb : w0.heap.size ≤ wb)
    (he : Blk w eb 36 cs) (h0 : cs[0]? = some (.int .i64 1)) (h1 : cs[1]? = some (.int .i64 x)) (hen : ¬ wrS wb v eb) (hd : DecAt w0 x s) (hl : ws.length + 1 ≤ 1000000000) :
    Calls Tryz.prog 32 #[.iface 74 (.pointer (some ⟨wb, 0, none⟩)), .pointer (some ⟨eb, 0, none⟩)] w fun e w' => e = .returned (.tuple #[]) ∧ WrS w wb w0.heap.size v (ws ++ [s]) (f || !inNum x) w' := by
  have x0 : w.cell? ⟨eb, 0, none⟩ = some (.int .i64 1) := (he.cell 0).trans h0
  have x1 : w.cell? ⟨eb, 1, none⟩ = some (.int .i64 x) := (he.cell 1).trans h1
  have ye := he.lt
  have hne : eb ≠ wb := fun c => hen (.inl c)
  have CN : RowKit.Hid (∀ W, Below w.heap.size w W → Calls Tryz.prog 190 #[.pointer (some ⟨wb, 0, none⟩), .pointer (some ⟨eb, 1, none⟩)] W fun e w' => e = .returned (.tuple #[]) ∧ WrS W wb w0.heap.size v (ws ++ [s]) (f || !inNum x) w') := fun W hW =>
    wnumber_any w0 W wb eb 1 ws f v x s (btr hw hW) (h.behind hW) hb (bc1 hW x1) hne hd hl
  have NN := fun W => nil_wnumber ⟨wb, 0, none⟩ W
  have MN := fun W => meth_wnumber ⟨wb, 0, none⟩ W
  clear h hw he hd
  go_enter Tryz.func32, Tryz.ntmps32
  go_wp2
  go_region_held3 (fun _ => True) (trivial)
    (first
    | (go_at_call 190; refine (CN.out _ (by (repeat (with_reducible first | exact Below.refl _ _ | refine bdr ?_ | refine bdn ?_ _ | refine bal ?_ _)))).mono ?_; rintro e w1 ⟨rfl, hs⟩))
  all_goals
    go_wp2
    go_end0
    exact ⟨rfl, WrS.ahead (by (repeat (with_reducible first | exact Below.refl _ _ | refine bdr ?_ | refine bdn ?_ _ | refine bal ?_ _))) hs⟩
theorem WrS.openS {w w1 : World} {wb B : Nat} {v : Value} {ws : List ByteArray} {f : Bool} (h : WrS w wb B v ws f w1) : ∃ v1, Wr w1 wb B ws f v1 ∧ (v1.ownBlock = v.ownBlock ∨ ∃ g, v1.ownBlock = some g ∧ w.heap.size ≤ g) ∧ Kept (wrS wb v) w w1 := by
  obtain ⟨⟨v1, h1, h2⟩, h3⟩ := h
  exact ⟨v1, h1, h2, h3⟩
set_option maxRecDepth 100000 in
set_option maxHeartbeats 4000000 in
theorem wfields_yield (w0 w : World) (wb : Nat) (ws : List ByteArray) (f : Bool) (v : Value) (eb : Nat) (cs : Array Value) (x2 x4 : Int) (a : Option Addr) (n cap : Nat) (l : List Rc) (tx : Int → ByteArray) (hw : Below w0.heap.size w0 w) (h : Wr w wb w0.heap.size ws f v) (hb : w0.heap.size ≤ wb)
    (he : Blk w eb 36 cs) (h0 : cs[0]? = some (.int .i64 4)) (h2 : cs[2]? = some (.int .i64 x2)) (h4 : cs[4]? = some (.int .i64 x4)) (h7 : cs[7]? = some (.slice a n cap)) (hen : ¬ wrS wb v eb)
    (hV : Vw w a (rcCells l)) (hn : l.length = n) (hnc : n ≤ 1000000) (hVn : ∀ b off, a = some ⟨b, off, none⟩ → ¬ wrS wb v b ∧ b < w.heap.size)
    (hd : DecAt w0 x2 (tx x2) ∧ DecAt w0 x4 (tx x4)) (hdl : DecAt w0 l.length (tx l.length) ∧ ∀ q ∈ l, DecAt w0 q.1 (tx q.1) ∧ DecAt w0 q.2.1 (tx q.2.1) ∧ DecAt w0 q.2.2.1 (tx q.2.2.1) ∧ DecAt w0 q.2.2.2 (tx q.2.2.2)) (hl : ws.length + 3 + 4 * n ≤ 1000000000) :
    Calls Tryz.prog 32 #[.iface 74 (.pointer (some ⟨wb, 0, none⟩)), .pointer (some ⟨eb, 0, none⟩)] w fun e w' => e = .returned (.tuple #[]) ∧ ∃ b : Bool, (b = true ↔ Vld l) ∧
      WrS w wb w0.heap.size v (ws ++ [tx x2, tx x4] ++ [tx l.length] ++ rcNums tx l) ((((f || nmFail [⟨eb, 2, x2, tx x2⟩, ⟨eb, 4, x4, tx x4⟩]) || !decide (((l.length : Nat) : Int) ≤ 120)) || rcFail l) || !b) w' := by
  have c0 : w.cell? ⟨eb, 0, none⟩ = some (.int .i64 4) := (he.cell 0).trans h0
  have ye := he.lt
  have hne : eb ≠ wb := fun c => hen (.inl c)
  have CON : RowKit.Hid (∀ W, Below w.heap.size w W → Vw W (some ⟨w.heap.size, 0, none⟩) [.pointer (some ⟨eb, 2, none⟩), .pointer (some ⟨eb, 4, none⟩)] → Calls Tryz.prog 72 #[.iface 74 (.pointer (some ⟨wb, 0, none⟩)), .slice (some ⟨w.heap.size, 0, none⟩) 2 2] W fun e w' => e = .returned (.tuple #[]) ∧ WrS W wb w0.heap.size v (ws ++ [tx x2, tx x4]) (f || nmFail [⟨eb, 2, x2, tx x2⟩, ⟨eb, 4, x4, tx x4⟩]) w') := fun W hW hVW => by
    refine wnumbers_any w0 W wb ws f v _ 2 2 [⟨eb, 2, x2, tx x2⟩, ⟨eb, 4, x4, tx x4⟩] (btr hw hW) (h.behind hW) hb hVW rfl (fun b off e c => ?_) (fun p hp => ?_) (by omega)
    · cases e
      rcases c with c | c
      · have := h.blk.lt; omega
      · have := (h.own.lt _ c).2; omega
    · simp only [List.mem_cons, List.not_mem_nil, or_false] at hp
      rcases hp with rfl | rfl
      · exact ⟨bc1 hW ((he.cell 2).trans h2), hen, hd.1⟩
      · exact ⟨bc1 hW ((he.cell 4).trans h4), hen, hd.2⟩
  have HE := Lib.hid he; have HV := Lib.hid hV; have HW := Lib.hid hw; have HH := Lib.hid h; have H7 := Lib.hid h7; have HVN := Lib.hid hVn; have HDL := Lib.hid hdl
  clear h hw he hd hdl hV hVn h7 h2 h4
  go_enter Tryz.func32, Tryz.ntmps32
  go_wp2
  go_region_held3 (fun _ => True) (trivial)
    (first
    | (go_at_call 72; refine (CON.out _ (by (repeat (with_reducible first | exact Below.refl _ _ | refine bdr ?_ | refine bdn ?_ _ | refine bal ?_ _))) (by first | exact vw_blk (Blk.fresh rfl) | exact vw_blk (Blk.fresh rfl).drew)).mono ?_; rintro e w1 ⟨rfl, hs⟩))
  all_goals
    obtain ⟨v1, hwr1, hfr1, hk1⟩ := (WrS.ahead (by (repeat (with_reducible first | exact Below.refl _ _ | refine bdr ?_ | refine bdn ?_ _ | refine bal ?_ _))) hs : WrS w wb w0.heap.size v _ _ w1).openS
    have CA := warea_any w0 w1 wb _ _ v1 eb 7 _ cs a n cap l tx (below_kept HW.out hk1 (wrS_ge HH.out hb)) hwr1 hb (hk1.blk HE.out hen) H7.out (wrS_step hfr1 hen ye) (hk1.vw HV.out fun b off e => (HVN.out b off e).1) hn (by omega) (fun b off e => wrS_step hfr1 (HVN.out b off e).1 (HVN.out b off e).2) HDL.out (by simp; omega)
    have HCA := Lib.hid CA; have HFR := Lib.hid hfr1; have HK := Lib.hid hk1
    clear CA hs hwr1 hfr1 hk1
    go_wp2_with (go_at_call 73; refine HCA.out.mono ?_; rintro e w2 ⟨rfl, b, hbv, hs2⟩)
    go_end0
    exact ⟨rfl, b, hbv, WrS.trans HFR.out HK.out hs2⟩
set_option maxRecDepth 100000 in
set_option maxHeartbeats 4000000 in
/-- The kinds without fields. -/
theorem wfields_none (w : World) (I : Value) (eb : Nat) (cs : Array Value) (k : Int) (he : Blk w eb 36 cs) (h0 : cs[0]? = some (.int .i64 k)) (hk : k = 8 ∨ k = 10 ∨ k = 11 ∨ k = 15) :
    Calls Tryz.prog 32 #[I, .pointer (some ⟨eb, 0, none⟩)] w fun e w' => e = .returned (.tuple #[]) ∧ w' = w := by
  have c0 : w.cell? ⟨eb, 0, none⟩ = some (.int .i64 k) := (he.cell 0).trans h0
  clear he h0
  rcases hk with rfl | rfl | rfl | rfl
  all_goals
    go_enter Tryz.func32, Tryz.ntmps32
    go_wp2
    go_end0
    exact ⟨rfl, rfl⟩
end Go.Proofs.YtglhenobodndjaaGreatDoor
