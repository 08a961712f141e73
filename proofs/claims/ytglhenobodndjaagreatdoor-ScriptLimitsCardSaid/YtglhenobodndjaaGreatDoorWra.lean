/- The script's writer: lengths, regions. -/
import Derived.Test.YtglhenobodndjaaGreatDoorWr
namespace Go.Proofs.YtglhenobodndjaaGreatDoor
open Go.RowKit
set_option linter.unusedVariables false
set_option linter.unusedSimpArgs false

theorem meth_wlength (a : Addr) (w : World) : (method 364 74 (.pointer (some a)) "landaid/script.length").run Tryz.prog w = .ok (189, .pointer (some a)) w := by kernel_rfl
theorem meth_wcheck (a : Addr) (w : World) : (method 364 74 (.pointer (some a)) "landaid/script.check").run Tryz.prog w = .ok (188, .pointer (some a)) w := by kernel_rfl
theorem nil_wlength (a : Addr) (w : World) : (nilAhead 364 74 (.pointer (some a)) "landaid/script.length").run Tryz.prog w = .ok (some false) w := by kernel_rfl
theorem nil_wcheck (a : Addr) (w : World) : (nilAhead 364 74 (.pointer (some a)) "landaid/script.check").run Tryz.prog w = .ok (some false) w := by kernel_rfl
set_option maxHeartbeats 2000000 in
theorem wlength_any (w0 w : World) (wb : Nat) (ws : List ByteArray) (f : Bool) (v : Value) (x most : Int) (s : ByteArray) (hw : Below w0.heap.size w0 w) (h : Wr w wb w0.heap.size ws f v) (hb : w0.heap.size ≤ wb) (hd : DecAt w0 x s) (hl : ws.length + 1 ≤ 1000000000) :
    Calls Tryz.prog 189 #[.pointer (some ⟨wb, 0, none⟩), .int .i64 x, .int .i64 most] w fun e w' => e = .returned (.int .i64 x) ∧ WrS w wb w0.heap.size v (ws ++ [s]) (f || !decide (x ≤ most)) w' := by
  have HH := Lib.hid h; have HD := Lib.hid hd; have HW := Lib.hid hw
  obtain ⟨b, hbb⟩ : ∃ b, decide (x ≤ most) = b := ⟨_, rfl⟩
  rw [hbb]
  have HC := Lib.hid (wcheck_any w wb _ ws f v b h)
  clear h hd hw
  have go : ∀ b, decide (x ≤ most) = b → True := fun _ _ => trivial
  cases b with
  | true =>
    have h1 : x ≤ most := by simpa using hbb
    clear hbb go
    go_enter Tryz.func189, Tryz.ntmps189
    go_wp2_with (first
      | (go_at_call 188; refine HC.out.mono ?_; rintro e w1 ⟨rfl, hwr1, hk1⟩; have W1 := Lib.hid hwr1; have K1 := Lib.hid hk1; have B1 := Lib.hid (below_kept HW.out hk1 (fun k hk => by rw [hk]; exact hb)); clear hwr1 hk1)
      | (go_at_call 193; refine (HD.out _ B1.out).mono ?_; rintro e w2 ⟨rfl, hb2⟩; have W2 := Lib.hid (W1.out.behind hb2); have K2 := Lib.hid (K1.out.behind hb2); have B2 := Lib.hid (btr B1.out hb2); clear hb2)
      | (go_at_call 192; refine (wput_any _ wb _ ws _ v s W2.out B2.out.size hl).mono ?_; rintro e w3 ⟨rfl, hs⟩; have K3 := Lib.hid hs; clear hs))
    go_ret
    exact ⟨rfl, K3.out.trans (.inl rfl) (K2.out.mono fun i _ hi => .inl hi)⟩
  | false =>
    have h1 : ¬ x ≤ most := by simpa using hbb
    have d1 : decide (x ≤ most) = false := hbb
    clear hbb go
    go_enter Tryz.func189, Tryz.ntmps189
    go_wp2_with (first
      | (go_at_call 188; refine HC.out.mono ?_; rintro e w1 ⟨rfl, hwr1, hk1⟩; have W1 := Lib.hid hwr1; have K1 := Lib.hid hk1; have B1 := Lib.hid (below_kept HW.out hk1 (fun k hk => by rw [hk]; exact hb)); clear hwr1 hk1)
      | (go_at_call 193; refine (HD.out _ B1.out).mono ?_; rintro e w2 ⟨rfl, hb2⟩; have W2 := Lib.hid (W1.out.behind hb2); have K2 := Lib.hid (K1.out.behind hb2); have B2 := Lib.hid (btr B1.out hb2); clear hb2)
      | (go_at_call 192; refine (wput_any _ wb _ ws _ v s W2.out B2.out.size hl).mono ?_; rintro e w3 ⟨rfl, hs⟩; have K3 := Lib.hid hs; clear hs))
    go_ret
    exact ⟨rfl, K3.out.trans (.inl rfl) (K2.out.mono fun i _ hi => .inl hi)⟩
/-- sized, where the length is right. -/
theorem sized_same (a : Option Addr) (n c : Nat) (w : World) : Calls Tryz.prog 90 #[.slice a n c, .int .i64 n] w fun e w' => e = .returned (.slice a n c) ∧ w' = w := by
  go_enter Tryz.func90, Tryz.ntmps90
  go_wp2
  go_ret
  exact ⟨rfl, rfl⟩
def rcNums (tx : Int → ByteArray) (l : List Rc) : List ByteArray := l.flatMap fun q => [tx q.1, tx q.2.1, tx q.2.2.1, tx q.2.2.2]
def rcFail (l : List Rc) : Bool := l.any fun q => !inNum q.1 || !inNum q.2.1 || !inNum q.2.2.1 || !inNum q.2.2.2
theorem wrS_step {w : World} {wb k : Nat} {v v1 : Value} (hfr : v1.ownBlock = v.ownBlock ∨ ∃ g, v1.ownBlock = some g ∧ w.heap.size ≤ g) (hn : ¬ wrS wb v k) (hk : k < w.heap.size) : ¬ wrS wb v1 k := fun c => by
  rcases c with c | c
  · exact hn (.inl c)
  · rcases hfr with e | ⟨g, e, hg⟩
    · exact hn (.inr (e ▸ c))
    · rw [e] at c; cases c; omega
theorem set_same {w : World} {g o : Nat} {t : TypeId} {cs : Array Value} {v : Value} (h : Blk w g t cs) (hv : cs[o]? = some v) : Blk (w.setCell ⟨g, o, none⟩ v) g t cs ∧ Kept (fun _ => False) w (w.setCell ⟨g, o, none⟩ v) := by
  have hb : Blk (w.setCell ⟨g, o, none⟩ v) g t cs := by
    have h1 := h.put o v
    have e : cs.setIfInBounds o v = cs := by
      apply Array.ext_getElem?
      intro i
      rw [Array.getElem?_setIfInBounds]
      by_cases hi : o = i
      · subst hi
        have := (Array.getElem?_eq_some_iff.1 hv).1
        rw [if_pos rfl, if_pos this, hv]
      · rw [if_neg hi]
    rwa [e] at h1
  refine ⟨hb, ⟨rfl, rfl, rfl, by simp [World.setCell], fun k hk _ => ?_⟩⟩
  by_cases hkg : k = g
  · subst hkg; exact hb.trans h.symm
  · exact Below.heap_setCell _ _ _ _ hkg
theorem WrS.quiet {w w1 w2 : World} {wb B : Nat} {v : Value} {ws : List ByteArray} {f : Bool} (h : WrS w wb B v ws f w1) (hk : Kept (fun _ => False) w1 w2) : WrS w wb B v ws f w2 := by
  obtain ⟨⟨v1, h1, h2⟩, h3⟩ := h
  exact ⟨⟨v1, h1.kept hk (fun c => c) (fun _ _ c => c), h2⟩, h3.trans hk fun _ _ c => c.elim⟩
theorem WrS.behind {w w1 w2 : World} {wb B : Nat} {v : Value} {ws : List ByteArray} {f : Bool} (h : WrS w wb B v ws f w1) (hb : Below w1.heap.size w1 w2) : WrS w wb B v ws f w2 := h.quiet (Kept.below hb)
theorem WrS.ahead {w w1 w2 : World} {wb B : Nat} {v : Value} {ws : List ByteArray} {f : Bool} (hb : Below w.heap.size w w1) (h : WrS w1 wb B v ws f w2) : WrS w wb B v ws f w2 := WrS.trans (.inl rfl) (Kept.below hb) h
def AreaI (w : World) (wb B n : Nat) (v : Value) (ws : List ByteArray) (f : Bool) (tx : Int → ByteArray) (l : List Rc) (i : Value) (wr : World) : Prop :=
  ∃ j : Nat, j ≤ n ∧ i = .int .i64 j ∧ WrS w wb B v (ws ++ rcNums tx (l.take j)) (f || rcFail (l.take j)) wr
theorem rcNums_len (tx : Int → ByteArray) (l : List Rc) : (rcNums tx l).length = 4 * l.length := by
  induction l with
  | nil => rfl
  | cons q l ih => simp [rcNums] at ih ⊢; omega
/-- What area leaves. -/
def AreaPost (w : World) (wb B : Nat) (v : Value) (ws : List ByteArray) (f : Bool) (tx : Int → ByteArray) (l : List Rc) (e : Ending) (w' : World) : Prop :=
  e = .returned (.tuple #[]) ∧ ∃ b : Bool, (b = true ↔ Vld l) ∧ WrS w wb B v (ws ++ [tx l.length] ++ rcNums tx l) (((f || !decide (((l.length : Nat) : Int) ≤ 120)) || rcFail l) || !b) w'
set_option maxHeartbeats 8000000 in
theorem warea_any (w0 w : World) (wb : Nat) (ws : List ByteArray) (f : Bool) (v : Value) (eb eo : Nat) (T : TypeId) (cs : Array Value) (a : Option Addr) (n cap : Nat) (l : List Rc) (tx : Int → ByteArray) (hw : Below w0.heap.size w0 w) (h : Wr w wb w0.heap.size ws f v) (hb : w0.heap.size ≤ wb)
    (he : Blk w eb T cs) (hec : cs[eo]? = some (.slice a n cap)) (hen : ¬ wrS wb v eb) (hV : Vw w a (rcCells l)) (hn : l.length = n) (hnc : n ≤ 9223372036854775807) (hVn : ∀ b off, a = some ⟨b, off, none⟩ → ¬ wrS wb v b)
    (hd : DecAt w0 l.length (tx l.length) ∧ ∀ q ∈ l, DecAt w0 q.1 (tx q.1) ∧ DecAt w0 q.2.1 (tx q.2.1) ∧ DecAt w0 q.2.2.1 (tx q.2.2.1) ∧ DecAt w0 q.2.2.2 (tx q.2.2.2)) (hl : ws.length + 1 + 4 * n ≤ 1000000000) :
    Calls Tryz.prog 73 #[.iface 74 (.pointer (some ⟨wb, 0, none⟩)), .pointer (some ⟨eb, eo, none⟩)] w (AreaPost w wb w0.heap.size v ws f tx l) := by
  subst hn
  have x0 : w.cell? ⟨eb, eo, none⟩ = some (.slice a l.length cap) := (he.cell eo).trans hec
  have f0 : w.frozen? ⟨eb, eo, none⟩ = false := he.free eo
  have ye := he.lt
  have HH := Lib.hid h; have HW := Lib.hid hw; have HE := Lib.hid he; have HEC := Lib.hid hec; have HV := Lib.hid hV; have HVN := Lib.hid hVn; have HD := Lib.hid hd
  have NX := fun W => nil_wlength ⟨wb, 0, none⟩ W
  have NC := fun W => nil_wcheck ⟨wb, 0, none⟩ W
  have ML := fun W => meth_wlength ⟨wb, 0, none⟩ W
  have MC := fun W => meth_wcheck ⟨wb, 0, none⟩ W
  obtain ⟨n, hn⟩ : ∃ n, l.length = n := ⟨_, rfl⟩
  have HN := Lib.hid hn
  unfold AreaPost
  rw [hn] at x0 HEC HD hl hnc ⊢
  clear h hw he hec hV hVn hd hn
  go_enter Tryz.func73, Tryz.ntmps73
  go_wp2
  go_region_held3 (fun w' => w'.cell? ⟨eb, eo, none⟩ = some (.slice a n cap)) (simp [go_sem, *])
    (first
    | (go_at_call 189; refine (wlength_any w0 _ wb ws f v n 120 (tx n) (btr HW.out (by (repeat (with_reducible first | exact Below.refl _ _ | refine bdr ?_ | refine bdn ?_ _ | refine bal ?_ _)))) (HH.out.behind (by (repeat (with_reducible first | exact Below.refl _ _ | refine bdr ?_ | refine bdn ?_ _ | refine bal ?_ _)))) hb HD.out.1 (by omega)).mono ?_; rintro e w1 ⟨rfl, hs1⟩; have x1 : w1.cell? ⟨eb, eo, none⟩ = some (.slice a n cap) := cell_kept hs1.kept x0 hen; have BX1 : Blk w1 eb T cs := hs1.kept.blk (HE.out.below (by (repeat (with_reducible first | exact Below.refl _ _ | refine bdr ?_ | refine bdn ?_ _ | refine bal ?_ _)))) hen; have f1 : w1.frozen? ⟨eb, eo, none⟩ = false := BX1.free eo; have y1 := BX1.lt)
    | (go_at_call 90; refine (sized_same _ _ _ _).mono ?_; rintro e w2 ⟨rfl, rfl⟩))
  all_goals
    obtain ⟨hE1, hQ1⟩ := set_same BX1 HEC.out
    have HS1 := Lib.hid ((WrS.ahead (by (repeat (with_reducible first | exact Below.refl _ _ | refine bdr ?_ | refine bdn ?_ _ | refine bal ?_ _))) hs1).quiet hQ1 : WrS w wb w0.heap.size v (ws ++ [tx n]) (f || !decide ((n : Int) ≤ 120)) _)
    obtain ⟨W1, hW1⟩ : ∃ W1, w2.setCell ⟨eb, eo, none⟩ (.slice a n cap) = W1 := ⟨_, rfl⟩
    rw [hW1] at HS1 hE1 ⊢
    have x2 : W1.cell? ⟨eb, eo, none⟩ = some (.slice a n cap) := (hE1.cell eo).trans HEC.out
    have HE1 := Lib.hid hE1
    clear hW1 hE1 hQ1 hs1 BX1 f1 x1 y1
    go_wp2
    go_loopw [29] (fun i wr => AreaI w wb w0.heap.size n v (ws ++ [tx n]) (f || !decide ((n : Int) ≤ 120)) tx l i wr) (fun i _ => n - (intOf i).toNat)
    case atStart => exact ⟨0, Nat.zero_le _, rfl, by simpa [rcNums, rcFail] using HS1.out⟩
    case round =>
      clear HS1 HE1 x2
      obtain ⟨j, hj, rfl, hs⟩ := hrel
      have HS := Lib.hid hs
      have xe : wr.cell? ⟨eb, eo, none⟩ = some (.slice a n cap) := cell_kept hs.kept x0 hen
      have yer := World.block_lt_of_cell? wr _ xe
      clear hs
      by_cases hlt : j < n
      · have hlt' : (j : Int) < (n : Int) := by omega
        obtain ⟨q, ab, aoff, hq, rfl, habl, hcq⟩ := HV.out.el encRc_len (by omega) j (by have := HN.out; omega)
        obtain ⟨⟨v1, hwr1, hfr⟩, hk⟩ := HS.out
        have hab : ¬ wrS wb v ab := HVN.out ab aoff rfl
        have hab1 : ¬ wrS wb v1 ab := wrS_step hfr hab habl
        have hq0 : wr.cell? ⟨ab, aoff + j * 4, none⟩ = some (.int .i64 q.1) := cell_kept hk (hcq 0 _ rfl) hab
        have hq1 : wr.cell? ⟨ab, aoff + j * 4 + 1, none⟩ = some (.int .i64 q.2.1) := cell_kept hk (hcq 1 _ rfl) hab
        have hq2 : wr.cell? ⟨ab, aoff + j * 4 + 2, none⟩ = some (.int .i64 q.2.2.1) := cell_kept hk (hcq 2 _ rfl) hab
        have hq3 : wr.cell? ⟨ab, aoff + j * 4 + 3, none⟩ = some (.int .i64 q.2.2.2) := cell_kept hk (hcq 3 _ rfl) hab
        obtain ⟨d0, d1, d2, d3⟩ := HD.out.2 q (List.mem_of_getElem? hq)
        have hbl : Below w0.heap.size w0 wr := below_kept HW.out hk (wrS_ge HH.out hb)
        obtain ⟨ps, hps⟩ : ∃ ps : List Nm, [⟨ab, aoff + j * 4, q.1, tx q.1⟩, ⟨ab, aoff + j * 4 + 1, q.2.1, tx q.2.1⟩, ⟨ab, aoff + j * 4 + 2, q.2.2.1, tx q.2.2.1⟩, ⟨ab, aoff + j * 4 + 3, q.2.2.2, tx q.2.2.2⟩] = ps := ⟨_, rfl⟩
        have CON : RowKit.Hid (∀ W, Below wr.heap.size wr W → Vw W (some ⟨wr.heap.size, 0, none⟩) [.pointer (some ⟨ab, aoff + j * 4, none⟩), .pointer (some ⟨ab, aoff + j * 4 + 1, none⟩), .pointer (some ⟨ab, aoff + j * 4 + 2, none⟩), .pointer (some ⟨ab, aoff + j * 4 + 3, none⟩)] → Calls Tryz.prog 72 #[.iface 74 (.pointer (some ⟨wb, 0, none⟩)), .slice (some ⟨wr.heap.size, 0, none⟩) 4 4] W fun e w' => e = .returned (.tuple #[]) ∧ WrS W wb w0.heap.size v1 ((ws ++ [tx n] ++ rcNums tx (l.take j)) ++ ps.map Nm.s) (((f || !decide ((n : Int) ≤ 120)) || rcFail (l.take j)) || nmFail ps) w') := fun W hW hVW => by
          refine wnumbers_any w0 W wb _ _ v1 _ 4 4 ps (btr hbl hW) (hwr1.behind hW) hb ?_ (by rw [← hps]; rfl) (fun b off e c => ?_) (fun p hp => ?_) ?_
          · rw [← hps]; exact hVW
          · cases e
            rcases c with c | c
            · have := hwr1.blk.lt; omega
            · have := (hwr1.own.lt _ c).2; omega
          · rw [← hps] at hp
            simp only [List.mem_cons, List.not_mem_nil, or_false] at hp
            rcases hp with rfl | rfl | rfl | rfl
            · exact ⟨bc1 hW hq0, hab1, d0⟩
            · exact ⟨bc1 hW hq1, hab1, d1⟩
            · exact ⟨bc1 hW hq2, hab1, d2⟩
            · exact ⟨bc1 hW hq3, hab1, d3⟩
          · rw [List.length_append, List.length_append, rcNums_len, List.length_take]; simp; omega
        have PS := Lib.hid hps; have FR := Lib.hid hfr; have HK := Lib.hid hk; have HQ := Lib.hid hq
        clear hwr1 hfr hk hq0 hq1 hq2 hq3 d0 d1 d2 d3 hbl hps hq hcq hab hab1
        go_wp2
        go_region_held3 (fun _ => True) (trivial)
          (first
          | (go_at_call 72; refine (CON.out _ (by (repeat (with_reducible first | exact Below.refl _ _ | refine bdr ?_ | refine bdn ?_ _ | refine bal ?_ _))) (by first | exact vw_blk (Blk.fresh rfl) | exact vw_blk (Blk.fresh rfl).drew)).mono ?_; rintro e w3 ⟨rfl, hs3⟩))
        all_goals
          go_wp2
          go_roundw
          case rel =>
            refine ⟨j + 1, by omega, by go_num, ?_⟩
            have e1 : ws ++ [tx n] ++ rcNums tx (l.take (j + 1)) = (ws ++ [tx n] ++ rcNums tx (l.take j)) ++ ps.map Nm.s := by
              rw [← PS.out, List.take_add_one, HQ.out]; simp [rcNums]
            have e2 : ((f || !decide ((n : Int) ≤ 120)) || rcFail (l.take (j + 1))) = (((f || !decide ((n : Int) ≤ 120)) || rcFail (l.take j)) || nmFail ps) := by
              rw [← PS.out, List.take_add_one, HQ.out]; simp [rcFail, nmFail, Bool.or_assoc]
            rw [e1, e2]
            exact WrS.trans FR.out HK.out (WrS.ahead (by (repeat (with_reducible first | exact Below.refl _ _ | refine bdr ?_ | refine bdn ?_ _ | refine bal ?_ _))) hs3)
          case measure => simp [intOf]; omega
      · have hge : ¬ (j : Int) < (n : Int) := by omega
        have ht : l.take j = l := List.take_of_length_le (by have := HN.out; omega)
        rw [ht] at HS
        obtain ⟨⟨v1, hwr1, hfr⟩, hk⟩ := HS.out
        have VR := Lib.hid (hk.vw HV.out HVN.out)
        have WR1 := Lib.hid hwr1; have FR := Lib.hid hfr; have HK := Lib.hid hk
        clear hwr1 hfr hk HS
        go_wp2
        go_region_held3 (fun w' => w'.cell? ⟨eb, eo, none⟩ = some (.slice a n cap)) (simp [go_sem, *])
          (first
          | (go_at_call 91; refine (valid_any a n cap l _ (VR.out.below (by (repeat (with_reducible first | exact Below.refl _ _ | refine bdr ?_ | refine bdn ?_ _ | refine bal ?_ _)))) HN.out hnc).mono ?_; rintro e w3 ⟨b, rfl, hbv, hb3⟩; have x3 : w3.cell? ⟨eb, eo, none⟩ = some (.slice a n cap) := bc1 (btr (by (repeat (with_reducible first | exact Below.refl _ _ | refine bdr ?_ | refine bdn ?_ _ | refine bal ?_ _))) hb3 : Below wr.heap.size wr w3) xe; have WR3 := Lib.hid (WR1.out.behind (btr (by (repeat (with_reducible first | exact Below.refl _ _ | refine bdr ?_ | refine bdn ?_ _ | refine bal ?_ _))) hb3 : Below wr.heap.size wr w3)); have y3 := World.block_lt_of_cell? w3 _ x3)
          | (go_at_call 188; refine (wcheck_any _ wb _ _ _ v1 b WR3.out).mono ?_; rintro e w4 ⟨rfl, hwr4, hk4⟩; have x4 : w4.cell? ⟨eb, eo, none⟩ = some (.slice a n cap) := cell_kept hk4 x3 (fun c => hen (.inl c))))
        all_goals
          go_wp2
          go_end0
          refine ⟨rfl, b, hbv, ?_⟩
          refine WrS.trans FR.out HK.out (WrS.ahead (btr (by (repeat (with_reducible first | exact Below.refl _ _ | refine bdr ?_ | refine bdn ?_ _ | refine bal ?_ _))) hb3) ?_)
          exact ⟨⟨v1, hwr4, .inl rfl⟩, hk4.mono fun i _ hi => .inl hi⟩
end Go.Proofs.YtglhenobodndjaaGreatDoor
