/- The script's reader: a region. -/
import Derived.Test.YtglhenobodndjaaGreatDoorRda
import Derived.Deep.RegionWith
namespace Go.Proofs.YtglhenobodndjaaGreatDoor
open Go.RowKit
set_option linter.unusedVariables false
set_option linter.unusedSimpArgs false

theorem meth_rlength (a : Addr) (w : World) : (method 364 98 (.pointer (some a)) "landaid/script.length").run Tryz.prog w = .ok (195, .pointer (some a)) w := by kernel_rfl
theorem meth_rcheck (a : Addr) (w : World) : (method 364 98 (.pointer (some a)) "landaid/script.check").run Tryz.prog w = .ok (194, .pointer (some a)) w := by kernel_rfl
theorem nil_rlength (a : Addr) (w : World) : (nilAhead 364 98 (.pointer (some a)) "landaid/script.length").run Tryz.prog w = .ok (some false) w := by kernel_rfl
theorem nil_rcheck (a : Addr) (w : World) : (nilAhead 364 98 (.pointer (some a)) "landaid/script.check").run Tryz.prog w = .ok (some false) w := by kernel_rfl
/-- The length that is read. -/
def rdLen (nv : ByteArray → Int × Bool) (f : Bool) (ws : List ByteArray) (most : Int) : Int := if lenFail f ws (nv (wordAt ws 0)) most then 0 else (nv (wordAt ws 0)).1
/-- What area reads. -/
structure RAreaP (w : World) (rb nb eb eo : Nat) (T : TypeId) (cs : Array Value) (nv : ByteArray → Int × Bool) (ws : List ByteArray) (f : Bool) (N : Nat) (w' : World) : Prop where
  ex : ∃ (b : Bool) (a : Option Addr) (c : Nat), (b = true ↔ Vld (rdRects nv (ws.drop 1) N)) ∧ Rd w' rb nb (ws.drop (1 + 4 * N)) ((lenFail f ws (nv (wordAt ws 0)) 120 || rdFail nv (ws.drop 1) (4 * N)) || !b) ∧
    Blk w' eb T (cs.setIfInBounds eo (.slice a N c)) ∧ Vw w' a (rcCells (rdRects nv (ws.drop 1) N)) ∧ N ≤ c ∧ c ≤ maxLen ∧ ((a = none ∧ c = 0) ∨ ∃ g, a = some ⟨g, 0, none⟩ ∧ w.heap.size ≤ g ∧ g ≠ eb ∧ g ≠ rb)
  kept : Kept (fun k => k = rb ∨ k = eb) w w'
/-- Behind the length and the row made. -/
structure CutA (w : World) (rb nb eb eo : Nat) (T : TypeId) (cs : Array Value) (ws : List ByteArray) (f : Bool) (N : Nat) (w' : World) : Prop where
  ex : ∃ (a : Option Addr) (c : Nat), Rd w' rb nb ws f ∧ Blk w' eb T (cs.setIfInBounds eo (.slice a N c)) ∧ N ≤ c ∧ c ≤ 120 ∧ ((N = 0 ∧ a = none ∧ c = 0) ∨ ∃ g, 0 < N ∧ a = some ⟨g, 0, none⟩ ∧ w.heap.size ≤ g ∧ g ≠ eb ∧ g ≠ rb ∧ g ≠ nb ∧ Blk w' g 73 (zeroRc N).toArray)
  kept : Kept (fun k => k = rb ∨ k = eb) w w'
theorem CutA.of0 {w w1 w2 : World} {rb nb eb eo : Nat} {T : TypeId} {cs : Array Value} {ws : List ByteArray} {f : Bool} (hr : Rd w1 rb nb ws f) (he : Blk w1 eb T cs) (h1 : eb ≠ rb) (h2 : eb ≠ nb) (hk : Kept (fun k => k = rb) w w1) (hb : Below w1.heap.size w1 w2) :
    CutA w rb nb eb eo T cs ws f 0 (w2.setCell ⟨eb, eo, none⟩ (.slice none 0 0)) :=
  ⟨⟨none, 0, (hr.behind hb).kept ((Kept.refl (fun k => k = eb) _).set rfl) h1.symm h2.symm, (he.below hb).put eo _, Nat.le_refl _, by decide, .inl ⟨rfl, rfl, rfl⟩⟩,
    ((hk.trans (T := fun k => k = rb) (Kept.below hb) fun _ _ c => c).mono fun _ _ c => .inl c).set (.inr rfl)⟩
theorem CutA.of1 {w w1 wz w2 : World} {rb nb eb eo N : Nat} {T : TypeId} {cs : Array Value} {ws : List ByteArray} {f : Bool} (hr : Rd w1 rb nb ws f) (he : Blk w1 eb T cs) (h1 : eb ≠ rb) (h2 : eb ≠ nb) (hk : Kept (fun k => k = rb) w w1) (hb : Below w1.heap.size w1 wz)
    (hg : Blk w2 wz.heap.size 73 (zeroRc N).toArray) (hb2 : Below wz.heap.size wz w2) (hN : N ≤ 120) (hN0 : 0 < N) (hrl : rb < w.heap.size) (hnl : nb < w.heap.size) :
    CutA w rb nb eb eo T cs ws f N (w2.setCell ⟨eb, eo, none⟩ (.slice (some ⟨wz.heap.size, 0, none⟩) N N)) := by
  have hb1 := btr hb hb2
  have l1 := he.lt
  have l2 := hb.size
  have l3 := hk.size
  exact ⟨⟨some ⟨wz.heap.size, 0, none⟩, N, (hr.behind hb1).kept ((Kept.refl (fun k => k = eb) _).set rfl) h1.symm h2.symm, (he.below hb1).put eo _, Nat.le_refl _, hN, .inr ⟨_, hN0, rfl, by omega, by omega, by omega, by omega, Kept.blk ((Kept.refl (fun k => k = eb) _).set rfl) hg (by omega)⟩⟩,
    ((hk.trans (T := fun k => k = rb) (Kept.below hb1) fun _ _ c => c).mono fun _ _ c => .inl c).set (.inr rfl)⟩
structure RAreaI (W : World) (rb nb eb : Nat) (n : Nat) (T : TypeId) (cs : Array Value) (nv : ByteArray → Int × Bool) (ws : List ByteArray) (f : Bool) (g : Nat) (i : Value) (wr : World) : Prop where
  ex : ∃ j : Nat, j ≤ n ∧ i = .int .i64 j ∧ Rd wr rb nb (ws.drop (4 * j)) (f || rdFail nv ws (4 * j)) ∧ (n = 0 ∨ Blk wr g 73 (rcCells (rdRects nv ws j) ++ zeroRc (n - j)).toArray)
  box : Blk wr eb T cs
  kept : Kept (fun k => k = rb ∨ (k = g ∧ n ≠ 0)) W wr
set_option maxHeartbeats 8000000 in
theorem rarea_any (w0 w : World) (rb nb eb eo : Nat) (T : TypeId) (cs : Array Value) (nv : ByteArray → Int × Bool) (ws : List ByteArray) (f : Bool) (N : Nat) (hw : Below w0.heap.size w0 w) (h : Rd w rb nb ws f) (hb : w0.heap.size ≤ rb) (heb : w0.heap.size ≤ eb) (hnb : nb < w.heap.size)
    (he : Blk w eb T cs) (hec : cs[eo]? = some (.slice none 0 0)) (h1 : eb ≠ rb) (h2 : eb ≠ nb) (hN : rdLen nv f ws 120 = (N : Int)) (hN2 : N ≤ 120) (hd : ∀ i, i < 1 + 4 * N → NumAt w0 (wordAt ws i) (nv (wordAt ws i))) :
    Calls Tryz.prog 73 #[.iface 98 (.pointer (some ⟨rb, 0, none⟩)), .pointer (some ⟨eb, eo, none⟩)] w fun e w' => e = .returned (.tuple #[]) ∧ RAreaP w rb nb eb eo T cs nv ws f N w' := by
  have x0 : w.cell? ⟨eb, eo, none⟩ = some (.slice none 0 0) := (he.cell eo).trans hec
  have ye := he.lt
  have yrb := h.lt
  have HH := Lib.hid h; have HW := Lib.hid hw; have HE := Lib.hid he; have HEC := Lib.hid hec; have HD := Lib.hid hd; have HNL := Lib.hid hN
  have NX := fun W => nil_rlength ⟨rb, 0, none⟩ W
  have NC := fun W => nil_rcheck ⟨rb, 0, none⟩ W
  have ML := fun W => meth_rlength ⟨rb, 0, none⟩ W
  have MC := fun W => meth_rcheck ⟨rb, 0, none⟩ W
  have CL : RowKit.Hid (∀ W, Below w.heap.size w W → Calls Tryz.prog 195 #[.pointer (some ⟨rb, 0, none⟩), .int .i64 0, .int .i64 120] W fun e w' => e = .returned (.int .i64 (N : Int)) ∧ Rd w' rb nb (ws.drop 1) (lenFail f ws (nv (wordAt ws 0)) 120) ∧ Kept (fun k => k = rb) W w') := fun W hW => by
    rw [← hN]
    exact rlength_any w0 W rb nb ws f _ 0 120 (btr hw hW) (h.behind hW) hb (Nat.lt_of_lt_of_le hnb hW.size) (hd 0 (by omega))
  obtain ⟨ws1, hws1⟩ : ∃ ws1, ws.drop 1 = ws1 := ⟨_, rfl⟩
  obtain ⟨f1, hf1⟩ : ∃ f1, lenFail f ws (nv (wordAt ws 0)) 120 = f1 := ⟨_, rfl⟩
  rw [hws1, hf1] at CL
  have HF1 := Lib.hid hf1; have HWS1 := Lib.hid hws1
  clear h hw he hec hd hN hf1 hws1
  go_enter Tryz.func73, Tryz.ntmps73
  go_upto_region 0 with fail
  go_cut [] (fun wx => CutA w rb nb eb eo T cs ws1 f1 N wx)
  case first =>
    by_cases hN0 : N = 0
    · subst hN0
      go_region_held3 (fun w' => w'.cell? ⟨eb, eo, none⟩ = some (.slice none 0 0)) (simp [go_sem, *])
        (first
        | (go_at_call 195; refine (CL.out _ (by (repeat (with_reducible first | exact Below.refl _ _ | refine bdr ?_ | refine bdn ?_ _ | refine bal ?_ _)))).mono ?_; rintro e w1 ⟨rfl, hr1, hk1⟩; have BX1 : Blk w1 eb T cs := hk1.blk (HE.out.below (by (repeat (with_reducible first | exact Below.refl _ _ | refine bdr ?_ | refine bdn ?_ _ | refine bal ?_ _)))) h1; have x1 : w1.cell? ⟨eb, eo, none⟩ = some (.slice none 0 0) := (BX1.cell eo).trans HEC.out; have f1' : w1.frozen? ⟨eb, eo, none⟩ = false := BX1.free eo; have y1 := BX1.lt; have K1 : Kept (fun k => k = rb) w w1 := (Kept.below (by (repeat (with_reducible first | exact Below.refl _ _ | refine bdr ?_ | refine bdn ?_ _ | refine bal ?_ _)))).trans hk1 fun _ _ c => c; clear hk1)
        | (go_at_call 90; refine (sized_same _ 0 _ _).mono ?_; rintro e w2 ⟨rfl, rfl⟩))
      all_goals (go_wp2_with fail)
      all_goals go_meet
      all_goals exact CutA.of0 hr1 BX1 h1 h2 K1 (by (repeat (with_reducible first | exact Below.refl _ _ | refine bdr ?_ | refine bdn ?_ _ | refine bal ?_ _)))
    · have hNp : (0 : Int) ≤ (N : Int) := by omega
      go_region_with
        (first
        | (go_at_call 195; refine (CL.out _ (by (repeat (with_reducible first | exact Below.refl _ _ | refine bdr ?_ | refine bdn ?_ _ | refine bal ?_ _)))).mono ?_; rintro e w1 ⟨rfl, hr1, hk1⟩; have BX1 : Blk w1 eb T cs := hk1.blk (HE.out.below (by (repeat (with_reducible first | exact Below.refl _ _ | refine bdr ?_ | refine bdn ?_ _ | refine bal ?_ _)))) h1; have x1 : w1.cell? ⟨eb, eo, none⟩ = some (.slice none 0 0) := (BX1.cell eo).trans HEC.out; have y1 := BX1.lt; have K1 : Kept (fun k => k = rb) w w1 := (Kept.below (by (repeat (with_reducible first | exact Below.refl _ _ | refine bdr ?_ | refine bdn ?_ _ | refine bal ?_ _)))).trans hk1 fun _ _ c => c; clear hk1)
        | (go_at_call 90; refine (sized_make 0 _ N none _ (fun c => hN0 c.symm) (by omega)).mono ?_; rintro e w2 ⟨rfl, hgb, hb2⟩; have C2 := CutA.of1 (eo := eo) hr1 BX1 h1 h2 K1 (by (repeat (with_reducible first | exact Below.refl _ _ | refine bdr ?_ | refine bdn ?_ _ | refine bal ?_ _))) hgb hb2 hN2 (by omega) yrb hnb; have BX2 : Blk w2 eb T cs := BX1.below (btr (by (repeat (with_reducible first | exact Below.refl _ _ | refine bdr ?_ | refine bdn ?_ _ | refine bal ?_ _))) hb2); clear hgb hb2; have x2 : w2.cell? ⟨eb, eo, none⟩ = some (.slice none 0 0) := (BX2.cell eo).trans HEC.out; have f2 : w2.frozen? ⟨eb, eo, none⟩ = false := BX2.free eo; have y2 := BX2.lt))
      all_goals (go_wp2_with fail)
      all_goals go_meet
      all_goals exact C2
  case rest =>
    obtain ⟨⟨a, cap, hr, hbx, hNc, hc2, hcs⟩, hk⟩ := hcut
    obtain ⟨cs2, hcs2⟩ : ∃ cs2, cs.setIfInBounds eo (.slice a N cap) = cs2 := ⟨_, rfl⟩
    have x2 : wc.cell? ⟨eb, eo, none⟩ = some (.slice a N cap) := (hbx.cell eo).trans (by
      have := (Array.getElem?_eq_some_iff.1 HEC.out).1
      rw [Array.getElem?_setIfInBounds, if_pos rfl, if_pos this])
    rw [hcs2] at hbx
    have yec := hbx.lt
    have HB0 : RowKit.Hid (Below w0.heap.size w0 wc) := below_kept HW.out hk (fun k c => by rcases c with rfl | rfl <;> assumption)
    have HR := Lib.hid hr; have HBX := Lib.hid hbx; have HK := Lib.hid hk; have HCS2 := Lib.hid hcs2
    obtain ⟨g, hg⟩ : ∃ g, (N = 0 ∧ a = none ∧ cap = 0) ∨ (0 < N ∧ a = some ⟨g, 0, none⟩ ∧ w.heap.size ≤ g ∧ g ≠ eb ∧ g ≠ rb ∧ g ≠ nb ∧ Blk wc g 73 (zeroRc N).toArray) := by
      rcases hcs with hcs | ⟨g, hcs⟩
      · exact ⟨0, .inl hcs⟩
      · exact ⟨g, .inr hcs⟩
    have HG := Lib.hid hg
    clear hr hbx hk hcs2 hcs hg
    go_wp2
    go_loopw [29] (fun i wr => RAreaI wc rb nb eb N T cs2 nv ws1 f1 g i wr) (fun i _ => N - (intOf i).toNat)
    case atStart =>
      refine ⟨⟨0, Nat.zero_le _, rfl, by simpa [rdFail] using HR.out, ?_⟩, HBX.out, Kept.refl _ _⟩
      rcases HG.out with ⟨hg, -, -⟩ | ⟨-, -, -, -, -, -, hg⟩
      · exact .inl hg
      · exact .inr (by simpa [rdRects, cellsOf] using hg)
    case round =>
      obtain ⟨⟨j, hj, rfl, hr, hgb⟩, hbx, hk⟩ := hrel
      have HR2 := Lib.hid hr; have HK2 := Lib.hid hk; have HX2 := Lib.hid hbx
      have x3 : wr.cell? ⟨eb, eo, none⟩ = some (.slice a N cap) := (hbx.cell eo).trans ((HBX.out.cell eo).symm.trans x2)
      have yer := hbx.lt
      by_cases hlt : j < N
      · have hlt' : (j : Int) < (N : Int) := by omega
        have j0 : (0 : Int) ≤ (j : Int) := by omega
        rcases HG.out with ⟨hg, -, -⟩ | ⟨-, rfl, g1, g2, g3, g4, -⟩
        · omega
        · rcases hgb with hgb | hgb
          · omega
          · have ygr := hgb.lt
            have hbl : Below w0.heap.size w0 wr := below_kept HB0.out hk (fun k c => by
              rcases c with rfl | ⟨rfl, -⟩
              · exact hb
              · exact Nat.le_trans HW.out.size g1)
            have CON : RowKit.Hid (∀ W, Below wr.heap.size wr W → Vw W (some ⟨wr.heap.size, 0, none⟩) [.pointer (some ⟨g, j * 4, none⟩), .pointer (some ⟨g, j * 4 + 1, none⟩), .pointer (some ⟨g, j * 4 + 2, none⟩), .pointer (some ⟨g, j * 4 + 3, none⟩)] → Calls Tryz.prog 72 #[.iface 98 (.pointer (some ⟨rb, 0, none⟩)), .slice (some ⟨wr.heap.size, 0, none⟩) 4 4] W fun e w' => e = .returned (.tuple #[]) ∧ Rd w' rb nb (ws1.drop (4 * (j + 1))) (f1 || rdFail nv ws1 (4 * (j + 1))) ∧ Blk w' g 73 (rcCells (rdRects nv ws1 (j + 1)) ++ zeroRc (N - (j + 1))).toArray ∧ Kept (fun k => k = rb ∨ k = g) W w') := fun W hW hVW => by
              rw [← rects_set nv ws1 j N hlt, show 4 * (j + 1) = 4 * j + 4 by omega, rdFail_add, ← Bool.or_assoc, ← List.drop_drop]
              refine rnumbers_any w0 W rb nb g _ _ nv [j * 4, j * 4 + 1, j * 4 + 2, j * 4 + 3] _ _ _ 4 4 (btr hbl hW) (HR2.out.behind hW) hb (hgb.below hW) (Nat.le_trans HW.out.size g1) (fun o ho => ?_) g3 g4 hVW rfl (fun b off e => ?_) (by omega) (fun i hi => ?_)
              · have hl : (rcCells (rdRects nv ws1 j)).length = j * 4 := by rw [cellsOf_length encRc_len, rdRects_len]
                simp only [List.size_toArray, List.length_append, hl, zeroRc, List.length_replicate]
                simp only [List.mem_cons, List.not_mem_nil, or_false] at ho
                omega
              · cases e
                have := HR2.out.lt
                exact ⟨by omega, by omega⟩
              · rw [wordAt_drop', ← HWS1.out, wordAt_drop']
                exact HD.out _ (by omega)
            clear hr hgb hbx hk
            go_wp2
            go_region_held3 (fun _ => True) (trivial)
              (first
              | (go_at_call 72; refine (CON.out _ (by (repeat (with_reducible first | exact Below.refl _ _ | refine bdr ?_ | refine bdn ?_ _ | refine bal ?_ _))) (by first | exact vw_blk (Blk.fresh rfl) | exact vw_blk (Blk.fresh rfl).drew)).mono ?_; rintro e w3 ⟨rfl, hr3, hg3, hk3⟩))
            all_goals
              go_wp2
              go_roundw
              case rel =>
                have K3 : Kept (fun k => k = rb ∨ (k = g ∧ N ≠ 0)) wr w3 := ((Kept.below (by (repeat (with_reducible first | exact Below.refl _ _ | refine bdr ?_ | refine bdn ?_ _ | refine bal ?_ _)))).trans (T := fun k => k = rb ∨ k = g) hk3 fun _ _ c => c).mono fun i _ c => c.imp id fun e => ⟨e, by omega⟩
                exact ⟨⟨j + 1, by omega, by go_num, hr3, .inr hg3⟩, K3.blk HX2.out (fun c => c.elim h1 fun c => g2 c.1.symm), HK2.out.trans K3 fun _ _ c => c⟩
              case measure => simp [intOf]; omega
      · obtain rfl : j = N := by omega
        have hge : ¬ (j : Int) < (j : Int) := by omega
        have VW0 : Vw wr a (rcCells (rdRects nv ws1 j)) := by
          rcases HG.out with ⟨hg, rfl, -⟩ | ⟨hg0, rfl, g1, g2, g3, g4, -⟩
          · subst hg; exact Vw.nil _ _
          · rcases hgb with hgb | hgb
            · omega
            · have := vw_blk hgb
              simpa [zeroRc] using this
        have VW := Lib.hid VW0
        clear hr hgb hbx hk VW0
        go_wp2
        go_region_held3 (fun w' => w'.cell? ⟨eb, eo, none⟩ = some (.slice a j cap)) (simp [go_sem, *])
          (first
          | (go_at_call 91; refine (valid_any a j cap _ _ (VW.out.below (by (repeat (with_reducible first | exact Below.refl _ _ | refine bdr ?_ | refine bdn ?_ _ | refine bal ?_ _)))) (rdRects_len _ _ _) (by omega)).mono ?_; rintro e w3 ⟨b, rfl, hbv, hb3⟩; have B3 : Below wr.heap.size wr w3 := btr (by (repeat (with_reducible first | exact Below.refl _ _ | refine bdr ?_ | refine bdn ?_ _ | refine bal ?_ _))) hb3; have x3 : w3.cell? ⟨eb, eo, none⟩ = some (.slice a j cap) := bc1 B3 x3; have y3 := World.block_lt_of_cell? w3 _ x3)
          | (go_at_call 194; refine (rcheck_any _ rb nb _ _ b (HR2.out.behind B3)).mono ?_; rintro e w4 ⟨rfl, hr4, hk4⟩; have x4 : w4.cell? ⟨eb, eo, none⟩ = some (.slice a j cap) := cell_kept hk4 x3 h1))
        all_goals
          go_wp2
          go_end0
          have K4 := HK.out.trans (T := fun k => k = rb ∨ (k = g ∧ j ≠ 0)) ((HK2.out.trans (Kept.below (S := fun _ => False) B3) fun _ _ c => c.elim).trans hk4 fun _ _ c => .inl c)
          have hcase : (a = none ∧ cap = 0) ∨ ∃ g', a = some ⟨g', 0, none⟩ ∧ w.heap.size ≤ g' ∧ g' ≠ eb ∧ g' ≠ rb := by
            rcases HG.out with ⟨-, e, e2⟩ | ⟨-, e, g1, g2, g3, -⟩
            · exact .inl ⟨e, e2⟩
            · exact .inr ⟨g, e, g1, g2, g3⟩
          refine ⟨rfl, ⟨b, a, cap, ?_, ?_, ?_, ?_, hNc, Nat.le_trans hc2 (by decide), hcase⟩, K4 fun i hi c => ?_⟩
          · rw [HWS1.out]; exact hbv
          · rw [← List.drop_drop, HWS1.out, HF1.out]; exact hr4
          · rw [HCS2.out]; exact hk4.blk (HX2.out.below B3) h1
          · rw [HWS1.out]
            refine hk4.vw (VW.out.below B3) fun b' off e => ?_
            rcases hcase with ⟨e', -⟩ | ⟨g', e', -, -, g3⟩
            · rw [e'] at e; cases e
            · rw [e'] at e; cases e; exact g3
          · rcases c with c | ⟨rfl, c⟩
            · exact .inl c
            · rcases HG.out with ⟨e, -⟩ | ⟨-, e, g1, -⟩
              · exact (c e).elim
              · omega
end Go.Proofs.YtglhenobodndjaaGreatDoor
