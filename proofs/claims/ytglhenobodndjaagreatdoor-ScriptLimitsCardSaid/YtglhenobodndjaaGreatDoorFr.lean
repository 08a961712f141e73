/- script.fields with the reader, kinds day, yield. -/
import Derived.Test.YtglhenobodndjaaGreatDoorFw
namespace Go.Proofs.YtglhenobodndjaaGreatDoor
open Go.RowKit
set_option linter.unusedVariables false
set_option linter.unusedSimpArgs false

theorem nil_rnumber (a : Addr) (w : World) : (nilAhead 364 98 (.pointer (some a)) "landaid/script.number").run Tryz.prog w = .ok (some false) w := by kernel_rfl
set_option maxRecDepth 100000 in
set_option maxHeartbeats 4000000 in
theorem rfields_day (w0 w : World) (rb nb eb : Nat) (cs : Array Value) (old : Value) (ws : List ByteArray) (f : Bool) (r : Int × Bool) (hw : Below w0.heap.size w0 w) (h : Rd w rb nb ws f) (hb : w0.heap.size ≤ rb)
    (he : Blk w eb 36 cs) (h0 : cs[0]? = some (.int .i64 1)) (ho : cs[1]? = some old) (h1 : eb ≠ rb) (h2 : eb ≠ nb) (hd : NumAt w0 (wordAt ws 0) r) :
    Calls Tryz.prog 32 #[.iface 98 (.pointer (some ⟨rb, 0, none⟩)), .pointer (some ⟨eb, 0, none⟩)] w fun e w' => e = .returned (.tuple #[]) ∧ Rd w' rb nb (ws.drop 1) ((f || ws.isEmpty) || !r.2) ∧ Blk w' eb 36 (cs.setIfInBounds 1 (.int .i64 r.1)) ∧ Kept (fun k => k = rb ∨ k = eb) w w' := by
  have x0 : w.cell? ⟨eb, 0, none⟩ = some (.int .i64 1) := (he.cell 0).trans h0
  have ye := he.lt
  have CN : RowKit.Hid (∀ W, Below w.heap.size w W → Calls Tryz.prog 196 #[.pointer (some ⟨rb, 0, none⟩), .pointer (some ⟨eb, 1, none⟩)] W fun e w' => e = .returned (.tuple #[]) ∧ Rd w' rb nb (ws.drop 1) ((f || ws.isEmpty) || !r.2) ∧ Blk w' eb 36 (cs.setIfInBounds 1 (.int .i64 r.1)) ∧ Kept (fun k => k = rb ∨ k = eb) W w') := fun W hW =>
    rnumber_any w0 W rb nb eb 1 _ cs old ws f r (btr hw hW) (h.behind hW) hb (he.below hW) ho h1 h2 hd
  have NN := fun W => nil_rnumber ⟨rb, 0, none⟩ W
  have MN := fun W => meth_rnumber ⟨rb, 0, none⟩ W
  clear h hw he hd ho
  go_enter Tryz.func32, Tryz.ntmps32
  go_wp2
  go_region_held3 (fun _ => True) (trivial)
    (first
    | (go_at_call 196; refine (CN.out _ (by (repeat (with_reducible first | exact Below.refl _ _ | refine bdr ?_ | refine bdn ?_ _ | refine bal ?_ _)))).mono ?_; rintro e w1 ⟨rfl, hr, hbx, hk⟩))
  all_goals
    go_wp2
    go_end0
    exact ⟨rfl, hr, hbx, (Kept.below (S := fun k => k = rb ∨ k = eb) (by (repeat (with_reducible first | exact Below.refl _ _ | refine bdr ?_ | refine bdn ?_ _ | refine bal ?_ _)))).trans hk fun _ _ c => c⟩
theorem setNums_get (cs : Array Value) (l : List (Nat × Int)) (i : Nat) (h : ∀ p ∈ l, p.1 ≠ i) : (setNums cs l)[i]? = cs[i]? := by
  induction l generalizing cs with
  | nil => rfl
  | cons p l ih =>
    simp only [setNums]
    rw [ih _ (fun q hq => h q (List.mem_cons_of_mem _ hq)), Array.getElem?_setIfInBounds, if_neg (h p List.mem_cons_self)]
set_option maxRecDepth 100000 in
set_option maxHeartbeats 4000000 in
theorem rfields_yield (w0 w : World) (rb nb eb : Nat) (cs : Array Value) (nv : ByteArray → Int × Bool) (ws : List ByteArray) (f : Bool) (N : Nat) (hw : Below w0.heap.size w0 w) (h : Rd w rb nb ws f) (hb : w0.heap.size ≤ rb) (hbe : w0.heap.size ≤ eb) (hnb : nb < w.heap.size)
    (he : Blk w eb 36 cs) (h0 : cs[0]? = some (.int .i64 4)) (h7 : cs[7]? = some (.slice none 0 0)) (hsz : 7 < cs.size) (h1 : eb ≠ rb) (h2 : eb ≠ nb)
    (hN : rdLen nv (f || rdFail nv ws 2) (ws.drop 2) 120 = (N : Int)) (hN2 : N ≤ 120) (hd : ∀ i, i < 3 + 4 * N → NumAt w0 (wordAt ws i) (nv (wordAt ws i))) :
    Calls Tryz.prog 32 #[.iface 98 (.pointer (some ⟨rb, 0, none⟩)), .pointer (some ⟨eb, 0, none⟩)] w fun e w' => e = .returned (.tuple #[]) ∧ ∃ w1, Kept (fun k => k = rb ∨ k = eb) w w1 ∧ RAreaP w1 rb nb eb 7 36 (setNums cs (rdVals nv ws [2, 4])) nv (ws.drop 2) (f || rdFail nv ws 2) N w' := by
  have c0 : w.cell? ⟨eb, 0, none⟩ = some (.int .i64 4) := (he.cell 0).trans h0
  have ye := he.lt
  have CON : RowKit.Hid (∀ W, Below w.heap.size w W → Vw W (some ⟨w.heap.size, 0, none⟩) [.pointer (some ⟨eb, 2, none⟩), .pointer (some ⟨eb, 4, none⟩)] → Calls Tryz.prog 72 #[.iface 98 (.pointer (some ⟨rb, 0, none⟩)), .slice (some ⟨w.heap.size, 0, none⟩) 2 2] W fun e w' => e = .returned (.tuple #[]) ∧ Rd w' rb nb (ws.drop 2) (f || rdFail nv ws 2) ∧ Blk w' eb 36 (setNums cs (rdVals nv ws [2, 4])) ∧ Kept (fun k => k = rb ∨ k = eb) W w') := fun W hW hVW => by
    refine rnumbers_any w0 W rb nb eb _ cs nv [2, 4] ws f _ 2 2 (btr hw hW) (h.behind hW) hb (he.below hW) hbe (fun o ho => ?_) h1 h2 hVW rfl (fun b off e => ?_) (by omega) (fun i hi => hd i (by omega))
    · simp only [List.mem_cons, List.not_mem_nil, or_false] at ho
      omega
    · cases e
      have := h.lt
      exact ⟨by omega, by omega⟩
  have HW := Lib.hid hw; have HD := Lib.hid hd; have HN := Lib.hid hN
  have H7 : RowKit.Hid ((setNums cs (rdVals nv ws [2, 4]))[7]? = some (.slice none 0 0)) := by
    refine Lib.hid ((setNums_get cs _ 7 fun p hp => ?_).trans h7)
    simp [rdVals] at hp
    rcases hp with rfl | rfl <;> (dsimp only; omega)
  clear h hw he hd h7 hN
  go_enter Tryz.func32, Tryz.ntmps32
  go_wp2
  go_region_held3 (fun _ => True) (trivial)
    (first
    | (go_at_call 72; refine (CON.out _ (by (repeat (with_reducible first | exact Below.refl _ _ | refine bdr ?_ | refine bdn ?_ _ | refine bal ?_ _))) (by first | exact vw_blk (Blk.fresh rfl) | exact vw_blk (Blk.fresh rfl).drew)).mono ?_; rintro e w1 ⟨rfl, hr, hbx, hk⟩))
  all_goals
    have hk1 : Kept (fun k => k = rb ∨ k = eb) w w1 := (Kept.below (S := fun k => k = rb ∨ k = eb) (by (repeat (with_reducible first | exact Below.refl _ _ | refine bdr ?_ | refine bdn ?_ _ | refine bal ?_ _)))).trans hk fun _ _ c => c
    have CA := rarea_any w0 w1 rb nb eb 7 _ _ nv (ws.drop 2) (f || rdFail nv ws 2) N (below_kept HW.out hk1 fun k c => by rcases c with rfl | rfl <;> assumption) hr hb hbe (Nat.lt_of_lt_of_le hnb hk1.size) hbx H7.out h1 h2 HN.out hN2 (fun i hi => by rw [wordAt_drop']; exact HD.out _ (by omega))
    have HCA := Lib.hid CA; have HK := Lib.hid hk1
    clear CA hr hbx hk hk1
    go_wp2_with (go_at_call 73; refine HCA.out.mono ?_; rintro e w2 ⟨rfl, hp⟩)
    go_end0
    exact ⟨rfl, w1, HK.out, hp⟩
end Go.Proofs.YtglhenobodndjaaGreatDoor
