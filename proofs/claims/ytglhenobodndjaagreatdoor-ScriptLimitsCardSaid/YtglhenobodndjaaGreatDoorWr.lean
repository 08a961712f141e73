/- The script's writer of words. -/
import Derived.Test.YtglhenobodndjaaGreatDoorKept
namespace Go.Proofs.YtglhenobodndjaaGreatDoor
open Go.RowKit
set_option linter.unusedVariables false
set_option linter.unusedSimpArgs false

/-- The writer in block wb: its words lie in a row of the call's own, v. -/
structure Wr (w : World) (wb B : Nat) (ws : List ByteArray) (f : Bool) (v : Value) : Prop where
  blk : Blk w wb 77 #[v, .bool f]
  own : w.ownsRow B 9 1 v ws.length (strCells ws)
  len : ws.length ≤ 1000000000
def wrS (wb : Nat) (v : Value) (k : Nat) : Prop := k = wb ∨ v.ownBlock = some k
/-- A step of the writer. -/
structure WrS (w : World) (wb B : Nat) (v : Value) (ws : List ByteArray) (f : Bool) (w' : World) : Prop where
  ex : ∃ v', Wr w' wb B ws f v' ∧ (v'.ownBlock = v.ownBlock ∨ ∃ g, v'.ownBlock = some g ∧ w.heap.size ≤ g)
  kept : Kept (wrS wb v) w w'
theorem WrS.of {w : World} {wb B : Nat} {v : Value} {ws : List ByteArray} {f : Bool} (h : Wr w wb B ws f v) : WrS w wb B v ws f w := ⟨⟨v, h, .inl rfl⟩, Kept.refl _ _⟩
theorem WrS.trans {w w1 w2 : World} {wb B : Nat} {v v1 : Value} {ws : List ByteArray} {f : Bool} (h1 : v1.ownBlock = v.ownBlock ∨ ∃ g, v1.ownBlock = some g ∧ w.heap.size ≤ g) (hk : Kept (wrS wb v) w w1) (k : WrS w1 wb B v1 ws f w2) : WrS w wb B v ws f w2 := by
  obtain ⟨⟨v2, h2, h3⟩, hk2⟩ := k
  refine ⟨⟨v2, h2, ?_⟩, hk.trans hk2 fun i hi hs => ?_⟩
  · rcases h3 with e | ⟨g, e, hg⟩
    · rw [e]; exact h1
    · exact .inr ⟨g, e, Nat.le_trans hk.size hg⟩
  · rcases hs with hs | hs
    · exact .inl hs
    · rcases h1 with e | ⟨g, e, hg⟩
      · exact .inr (e ▸ hs)
      · rw [e] at hs; cases hs; omega
theorem Wr.ne {w : World} {wb B : Nat} {ws : List ByteArray} {f : Bool} {v : Value} (h : Wr w wb B ws f v) : v.ownBlock ≠ some wb := fun e => by
  rcases h.own.2 with ⟨rfl, _⟩ | ⟨g, cap, cur, rfl, _, hg, _⟩
  · cases e
  · have : g = wb := by simpa [Value.ownBlock] using e
    subst this
    rw [show w.heap[g]? = _ from h.blk] at hg
    cases hg
theorem Wr.behind {w w' : World} {wb B : Nat} {ws : List ByteArray} {f : Bool} {v : Value} (h : Wr w wb B ws f v) (hb : Below w.heap.size w w') : Wr w' wb B ws f v := ⟨h.blk.below hb, own_keep h.own hb, h.len⟩
theorem Wr.kept {S : Nat → Prop} {w w' : World} {wb B : Nat} {ws : List ByteArray} {f : Bool} {v : Value} (h : Wr w wb B ws f v) (hk : Kept S w w') (h1 : ¬ S wb) (h2 : ∀ g, v.ownBlock = some g → ¬ S g) : Wr w' wb B ws f v := ⟨hk.blk h.blk h1, hk.own h.own h2, h.len⟩
set_option maxHeartbeats 2000000 in
theorem wput_any (w : World) (wb B : Nat) (ws : List ByteArray) (f : Bool) (v : Value) (s : ByteArray) (h : Wr w wb B ws f v) (hB : B ≤ w.heap.size) (hl : ws.length + 1 ≤ 1000000000) :
    Calls Tryz.prog 192 #[.pointer (some ⟨wb, 0, none⟩), .string s] w fun e w' => e = .returned (.tuple #[]) ∧ WrS w wb B v (ws ++ [s]) f w' := by
  obtain ⟨a, cap, rfl, -, -, -⟩ := own_form h.own
  have x0 : w.cell? ⟨wb, 0, none⟩ = some (.slice a ws.length cap) := h.blk.cell 0
  have y0 := h.blk.lt
  have HH := Lib.hid h
  clear h
  go_enter Tryz.func192, Tryz.ntmps192
  go_wp2_with (at_builtin; refine app_list elStr rfl _ _ rfl B _ ws.length (strCells ws) rfl (own_keep HH.out.own (by (repeat (with_reducible first | exact Below.refl _ _ | refine bdr ?_ | refine bdn ?_ _ | refine bal ?_ _)))) _ 1 _ [.string s] rfl (by first | exact vw_blk (Blk.fresh (by simp)) | exact vw_blk (Blk.fresh (by simp)).drew) (by simp) rfl (oneC_str [s]) (by omega) (by simp; omega) ?_; intro v2 w2 hown2 hg2 hat2; have BW : Blk w2 wb 77 #[.slice a ws.length cap, .bool f] := blk_app (HH.out.blk.below (by (repeat (with_reducible first | exact Below.refl _ _ | refine bdr ?_ | refine bdn ?_ _ | refine bal ?_ _)))) (own_keep HH.out.own (by (repeat (with_reducible first | exact Below.refl _ _ | refine bdr ?_ | refine bdn ?_ _ | refine bal ?_ _)))) hg2 (by decide); have z0 : w2.cell? ⟨wb, 0, none⟩ = some (.slice a ws.length cap) := BW.cell 0; have z1 : w2.frozen? ⟨wb, 0, none⟩ = false := BW.free 0; have z2 := BW.lt; obtain ⟨a2, cap2, rfl, -, -, -⟩ := own_form hown2)
  go_end0
  refine ⟨rfl, ⟨⟨.slice a2 (ws.length + 1) cap2, ⟨BW.put 0 _, ?_, by simp; omega⟩, ?_⟩, ?_⟩⟩
  · have h2 : ∀ g, (Value.slice a2 (ws.length + 1) cap2).ownBlock = some g → g ≠ wb := fun g hg c => by
      subst c
      rcases hown2.2 with ⟨h0, _⟩ | ⟨g', cap', cur, hv, _, hh, _⟩
      · rw [h0] at hg; cases hg
      · rw [hv] at hg
        have : g' = g := by simpa [Value.ownBlock] using hg
        subst this
        rw [show w2.heap[g']? = _ from BW] at hh
        cases hh
    have hk := Kept.own (S := fun k => k = wb) ((Kept.refl _ w2).set (g := wb) (o := 0) (v := .slice a2 (ws.length + 1) cap2) rfl) hown2 fun g hg c => h2 g hg c
    rw [List.length_append]
    simpa [strCells] using hk
  · rcases hat2 with e | e
    · exact .inl e
    · exact .inr ⟨_, e, by simp⟩
  · refine Kept.set ?_ (.inl rfl)
    refine ⟨hg2.os, hg2.tape, hg2.output, by have := hg2.size; simp at this; omega, fun k hk hn => ?_⟩
    rw [hg2.block k (by simp; omega) (fun c => hn (.inr c.symm))]
    exact Below.heap_alloc w _ k hk
set_option maxHeartbeats 2000000 in
theorem wcheck_any (w : World) (wb B : Nat) (ws : List ByteArray) (f : Bool) (v : Value) (ok : Bool) (h : Wr w wb B ws f v) :
    Calls Tryz.prog 188 #[.pointer (some ⟨wb, 0, none⟩), .bool ok] w fun e w' => e = .returned (.tuple #[]) ∧ Wr w' wb B ws (f || !ok) v ∧ Kept (fun k => k = wb) w w' := by
  have x1 : w.cell? ⟨wb, 1, none⟩ = some (.bool f) := h.blk.cell 1
  have x2 : w.frozen? ⟨wb, 1, none⟩ = false := h.blk.free 1
  have y0 := h.blk.lt
  have HH := Lib.hid h
  clear h
  have fin : ∀ g : Bool, g = (f || !ok) → Wr (w.setCell ⟨wb, 1, none⟩ (.bool g)) wb B ws (f || !ok) v ∧ Kept (fun k => k = wb) w (w.setCell ⟨wb, 1, none⟩ (.bool g)) := fun g hg => by
    have hk : Kept (fun k => k = wb) w (w.setCell ⟨wb, 1, none⟩ (.bool g)) := (Kept.refl _ w).set rfl
    exact ⟨⟨by rw [← hg]; exact HH.out.blk.put 1 _, hk.own HH.out.own fun q hq c => HH.out.ne (c ▸ hq), HH.out.len⟩, hk⟩
  have FIN := Lib.hid fin
  clear fin
  cases f <;> cases ok <;>
  · go_enter Tryz.func188, Tryz.ntmps188
    go_wp2
    go_end0
    exact ⟨rfl, FIN.out _ rfl⟩
def inNum (x : Int) : Bool := decide (0 ≤ x ∧ x ≤ 1125899906842624)
theorem wrS_ge {w0 w : World} {wb : Nat} {ws : List ByteArray} {f : Bool} {v : Value} (h : Wr w wb w0.heap.size ws f v) (hb : w0.heap.size ≤ wb) : ∀ k, wrS wb v k → w0.heap.size ≤ k := fun k hk => by
  rcases hk with rfl | hk
  · exact hb
  · exact (h.own.lt k hk).1
theorem cell_kept {S : Nat → Prop} {w w' : World} {b o : Nat} {v : Value} (hk : Kept S w w') (h : w.cell? ⟨b, o, none⟩ = some v) (hn : ¬ S b) : w'.cell? ⟨b, o, none⟩ = some v :=
  (World.cell?_of_block (w := w) (a := ⟨b, o, none⟩) (hk.block b (World.block_lt_of_cell? w _ h) hn)).trans h
set_option maxHeartbeats 2000000 in
theorem wnumber_any (w0 w : World) (wb tb tf : Nat) (ws : List ByteArray) (f : Bool) (v : Value) (x : Int) (s : ByteArray) (hw : Below w0.heap.size w0 w) (h : Wr w wb w0.heap.size ws f v) (hb : w0.heap.size ≤ wb) (hx : w.cell? ⟨tb, tf, none⟩ = some (.int .i64 x)) (hne : tb ≠ wb) (hd : DecAt w0 x s) (hl : ws.length + 1 ≤ 1000000000) :
    Calls Tryz.prog 190 #[.pointer (some ⟨wb, 0, none⟩), .pointer (some ⟨tb, tf, none⟩)] w fun e w' => e = .returned (.tuple #[]) ∧ WrS w wb w0.heap.size v (ws ++ [s]) (f || !inNum x) w' := by
  have HH := Lib.hid h; have HD := Lib.hid hd; have HX := Lib.hid hx; have HW := Lib.hid hw
  have ytb := World.block_lt_of_cell? w _ hx
  have rest : ∀ b, inNum x = b → Calls Tryz.prog 188 #[.pointer (some ⟨wb, 0, none⟩), .bool b] w fun e w' => e = .returned (.tuple #[]) ∧ Wr w' wb w0.heap.size ws (f || !inNum x) v ∧ Kept (fun k => k = wb) w w' := fun b hb => by rw [hb]; exact wcheck_any w wb _ ws f v b h
  have HC := Lib.hid rest
  clear h hd hw rest
  by_cases h0 : 0 ≤ x
  · by_cases h1 : x ≤ 1125899906842624
    · have HI : RowKit.Hid (inNum x = true) := by show inNum x = true; unfold inNum; simp [h0, h1]
      go_enter Tryz.func190, Tryz.ntmps190
      go_wp2_with (first
        | (go_at_call 188; refine (HC.out _ HI.out).mono ?_; rintro e w1 ⟨rfl, hwr1, hk1⟩; have x1 : w1.cell? ⟨tb, tf, none⟩ = some (.int .i64 x) := cell_kept hk1 HX.out hne; have W1 := Lib.hid hwr1; have K1 := Lib.hid hk1; have B1 := Lib.hid (below_kept HW.out hk1 (fun k hk => by rw [hk]; exact hb)); clear hwr1 hk1)
        | (go_at_call 193; refine (HD.out _ B1.out).mono ?_; rintro e w2 ⟨rfl, hb2⟩; have W2 := Lib.hid (W1.out.behind hb2); have K2 := Lib.hid (K1.out.behind hb2); have B2 := Lib.hid (btr B1.out hb2); clear hb2)
        | (go_at_call 192; refine (wput_any _ wb _ ws _ v s W2.out B2.out.size hl).mono ?_; rintro e w3 ⟨rfl, hs⟩; have K3 := Lib.hid hs; clear hs))
      go_end0
      exact ⟨rfl, K3.out.trans (.inl rfl) (K2.out.mono fun i _ hi => .inl hi)⟩
    · have HI : RowKit.Hid (inNum x = false) := by show inNum x = false; unfold inNum; simp [h1]
      have h1' : decide (x ≤ 1125899906842624) = false := by simpa using h1
      go_enter Tryz.func190, Tryz.ntmps190
      go_wp2_with (first
        | (go_at_call 188; refine (HC.out _ HI.out).mono ?_; rintro e w1 ⟨rfl, hwr1, hk1⟩; have x1 : w1.cell? ⟨tb, tf, none⟩ = some (.int .i64 x) := cell_kept hk1 HX.out hne; have W1 := Lib.hid hwr1; have K1 := Lib.hid hk1; have B1 := Lib.hid (below_kept HW.out hk1 (fun k hk => by rw [hk]; exact hb)); clear hwr1 hk1)
        | (go_at_call 193; refine (HD.out _ B1.out).mono ?_; rintro e w2 ⟨rfl, hb2⟩; have W2 := Lib.hid (W1.out.behind hb2); have K2 := Lib.hid (K1.out.behind hb2); have B2 := Lib.hid (btr B1.out hb2); clear hb2)
        | (go_at_call 192; refine (wput_any _ wb _ ws _ v s W2.out B2.out.size hl).mono ?_; rintro e w3 ⟨rfl, hs⟩; have K3 := Lib.hid hs; clear hs))
      go_end0
      exact ⟨rfl, K3.out.trans (.inl rfl) (K2.out.mono fun i _ hi => .inl hi)⟩
  · have HI : RowKit.Hid (inNum x = false) := by show inNum x = false; unfold inNum; simp [h0]
    have h0' : decide (0 ≤ x) = false := by simpa using h0
    go_enter Tryz.func190, Tryz.ntmps190
    go_wp2_with (first
      | (go_at_call 188; refine (HC.out _ HI.out).mono ?_; rintro e w1 ⟨rfl, hwr1, hk1⟩; have x1 : w1.cell? ⟨tb, tf, none⟩ = some (.int .i64 x) := cell_kept hk1 HX.out hne; have W1 := Lib.hid hwr1; have K1 := Lib.hid hk1; have B1 := Lib.hid (below_kept HW.out hk1 (fun k hk => by rw [hk]; exact hb)); clear hwr1 hk1)
      | (go_at_call 193; refine (HD.out _ B1.out).mono ?_; rintro e w2 ⟨rfl, hb2⟩; have W2 := Lib.hid (W1.out.behind hb2); have K2 := Lib.hid (K1.out.behind hb2); have B2 := Lib.hid (btr B1.out hb2); clear hb2)
      | (go_at_call 192; refine (wput_any _ wb _ ws _ v s W2.out B2.out.size hl).mono ?_; rintro e w3 ⟨rfl, hs⟩; have K3 := Lib.hid hs; clear hs))
    go_end0
    exact ⟨rfl, K3.out.trans (.inl rfl) (K2.out.mono fun i _ hi => .inl hi)⟩
end Go.Proofs.YtglhenobodndjaaGreatDoor
/- The script's writer, through its interface: numbers, lengths. -/
namespace Go.Proofs.YtglhenobodndjaaGreatDoor
open Go.RowKit
set_option linter.unusedVariables false
set_option linter.unusedSimpArgs false

/-- A number to be written: where it stands, what it is, its text. -/
structure Nm where
  b : Nat
  o : Nat
  x : Int
  s : ByteArray
def encNm (p : Nm) : List Value := [.pointer (some ⟨p.b, p.o, none⟩)]
theorem encNm_len (p : Nm) : (encNm p).length = 1 := rfl
def nmOk (w0 w : World) (wb : Nat) (v : Value) (p : Nm) : Prop := w.cell? ⟨p.b, p.o, none⟩ = some (.int .i64 p.x) ∧ ¬ wrS wb v p.b ∧ DecAt w0 p.x p.s
def nmFail (l : List Nm) : Bool := l.any fun p => !inNum p.x
theorem meth_wnumber (a : Addr) (w : World) : (method 364 74 (.pointer (some a)) "landaid/script.number").run Tryz.prog w = .ok (190, .pointer (some a)) w := by kernel_rfl
def NumI (w : World) (wb B n : Nat) (v : Value) (ws : List ByteArray) (f : Bool) (ps : List Nm) (i : Value) (wr : World) : Prop :=
  ∃ j : Nat, j ≤ n ∧ i = .int .i64 j ∧ WrS w wb B v (ws ++ (ps.take j).map Nm.s) (f || nmFail (ps.take j)) wr
set_option maxHeartbeats 4000000 in
theorem wnumbers_any (w0 w : World) (wb : Nat) (ws : List ByteArray) (f : Bool) (v : Value) (a : Option Addr) (n cap : Nat) (ps : List Nm) (hw : Below w0.heap.size w0 w) (h : Wr w wb w0.heap.size ws f v) (hb : w0.heap.size ≤ wb)
    (hV : Vw w a (cellsOf encNm ps)) (hn : ps.length = n) (hVn : ∀ b off, a = some ⟨b, off, none⟩ → ¬ wrS wb v b) (hp : ∀ p ∈ ps, nmOk w0 w wb v p) (hl : ws.length + n ≤ 1000000000) :
    Calls Tryz.prog 72 #[.iface 74 (.pointer (some ⟨wb, 0, none⟩)), .slice a n cap] w fun e w' => e = .returned (.tuple #[]) ∧ WrS w wb w0.heap.size v (ws ++ ps.map Nm.s) (f || nmFail ps) w' := by
  have HH := Lib.hid h; have HV := Lib.hid hV; have HN := Lib.hid hn; have HW := Lib.hid hw; have HP := Lib.hid hp; have HVN := Lib.hid hVn
  clear h hV hn hw hp hVn
  have MT := fun w => meth_wnumber ⟨wb, 0, none⟩ w
  go_enter Tryz.func72, Tryz.ntmps72
  go_wp2
  go_loopw [8] (fun i wr => NumI w wb w0.heap.size n v ws f ps i wr) (fun i _ => n - (intOf i).toNat)
  case atStart => exact ⟨0, Nat.zero_le _, rfl, by simpa [nmFail] using WrS.of HH.out⟩
  case round =>
    obtain ⟨j, hj, rfl, hs⟩ := hrel
    have HS := Lib.hid hs
    clear hs
    by_cases hlt : j < n
    · have hlt' : (j : Int) < (n : Int) := by omega
      obtain ⟨p, b, off, hp, rfl, hbl, hc⟩ := HV.out.el encNm_len (by omega) j (by have := HN.out; omega)
      have c0 : wr.cell? ⟨b, off + j, none⟩ = some (.pointer (some ⟨p.b, p.o, none⟩)) := by
        have := hc 0 _ rfl
        rw [Nat.mul_one, Nat.add_zero] at this
        exact cell_kept HS.out.kept this (HVN.out b off rfl)
      have POK := Lib.hid (HP.out p (List.mem_of_getElem? hp))
      have HJ := Lib.hid hp
      clear hc hp
      obtain ⟨⟨v1, hwr1, hfr⟩, hk⟩ := HS.out
      have hx1 : wr.cell? ⟨p.b, p.o, none⟩ = some (.int .i64 p.x) := cell_kept hk POK.out.1 POK.out.2.1
      have hbl : Below w0.heap.size w0 wr := below_kept HW.out hk (wrS_ge HH.out hb)
      have e1 : (ws ++ (ps.take j).map Nm.s) ++ [p.s] = ws ++ (ps.take (j + 1)).map Nm.s := by rw [List.take_add_one, HJ.out]; simp
      have e2 : ((f || nmFail (ps.take j)) || !inNum p.x) = (f || nmFail (ps.take (j + 1))) := by rw [List.take_add_one, HJ.out]; unfold nmFail; simp [Bool.or_assoc]
      have hl1 : (ws ++ (ps.take j).map Nm.s).length + 1 ≤ 1000000000 := by rw [List.length_append, List.length_map, List.length_take]; omega
      have CON := Lib.hid (wnumber_any w0 wr wb p.b p.o _ _ v1 p.x p.s hbl hwr1 hb hx1 (fun c => POK.out.2.1 (.inl c)) POK.out.2.2 hl1)
      have FR := Lib.hid hfr; have HK := Lib.hid hk; have E1 := Lib.hid e1; have E2 := Lib.hid e2
      clear hwr1 hfr hk hx1 hbl e1 e2 hl1
      go_wp2_with (go_at_call 190; refine CON.out.mono ?_; rintro e w2 ⟨rfl, hs2⟩)
      go_roundw
      case rel =>
        refine ⟨j + 1, by omega, by go_num, ?_⟩
        rw [← E1.out, ← E2.out]
        exact WrS.trans FR.out HK.out hs2
      case measure => simp [intOf]; omega
    · have hge : ¬ (j : Int) < (n : Int) := by omega
      go_wp2
      go_end0
      refine ⟨rfl, ?_⟩
      have := HS.out
      rwa [List.take_of_length_le (by have := HN.out; omega)] at this
end Go.Proofs.YtglhenobodndjaaGreatDoor
