/- Events, and clone of one without lines and observations. -/
import Derived.Test.YtglhenobodndjaaGreatDoorCl
import Derived.Laws.Tables
import Derived.Handy
import Derived.Deep.RegionWith
namespace Go.Proofs.YtglhenobodndjaaGreatDoor
open Go.RowKit
set_option linter.unusedVariables false
set_option linter.unusedSimpArgs false

/-- The plain fields of an event. -/
structure Ev where
  kind : Int
  day : Int
  farm : Int
  parcel : Int
  line : Int
  what : Int
  slope : Int
  party : Int
  seed : Int
  salt : Int
  area : Int
  border : Int
  a0 : Int
  a1 : Int
  a2 : Int
  a3 : Int
  a4 : Int
  a5 : Int
  a6 : Int
  a7 : Int
/-- The cells of an event: L, R, O are the slices of its lines, rectangles, observations. -/
def Ev.cells (e : Ev) (L R O : Value) : Array Value :=
  #[.int .i64 e.kind, .int .i64 e.day, .int .i64 e.farm, .int .i64 e.parcel, .int .i64 e.line, .int .i64 e.what, L, R, .int .i64 e.slope, O, .int .i64 e.party, .int .u64 e.seed, .int .u64 e.salt, .int .i64 e.area, .int .i64 e.border,
    .int .i64 e.a0, .int .i64 e.a1, .int .i64 e.a2, .int .i64 e.a3, .int .i64 e.a4, .int .i64 e.a5, .int .i64 e.a6, .int .i64 e.a7]
def nilS : Value := .slice none 0 0
theorem evInfo : (Tryz.prog.info? 36).map (·.size) = some 23 := by kernel_rfl
theorem Ev.size (e : Ev) (L R O : Value) : (e.cells L R O).size = 23 := rfl
theorem kept_setRow (w : World) (g : Nat) (cs : Array Value) : Kept (fun k => k = g) w (w.setRow g cs) := ⟨rfl, rfl, rfl, by simp, fun k hk hn => setRow_other w g k cs hn⟩
set_option maxHeartbeats 4000000 in
theorem clone_light (e : Ev) (a : Option Addr) (n c : Nat) (l : List Rc) (w : World) (hV : Vw w a (rcCells l)) (ha : Pl a) (hn : l.length = n) (h0 : a = none → n = 0) (hm : n ≤ 1000000) :
    Calls Tryz.prog 31 #[.agg (e.cells (.slice none 0 0) (.slice a n c) (.slice none 0 0))] w fun x w' => ∃ v, x = .returned (.agg (e.cells (.slice none 0 0) v (.slice none 0 0))) ∧ w'.ownsRow w.heap.size 73 4 v n (rcCells l) ∧ Below w.heap.size w w' := by
  have HC : RowKit.Hid (∀ W, Below w.heap.size w W → Calls Tryz.prog 69 #[.agg #[.slice a n c]] W fun e w' => ∃ v, e = .returned (.agg #[v]) ∧ w'.ownsRow W.heap.size 73 4 v n (rcCells l) ∧ Below W.heap.size W w') := fun W hW => by
    subst hn
    exact region_any a _ c l W (hV.below hW) ha rfl h0 hm
  clear hV
  obtain ⟨e0, e1, e2, e3, e4, e5, e8, e10, e11, e12, e13, e14, e15, e16, e17, e18, e19, e20, e21, e22⟩ := e
  simp only [Ev.cells]
  have BE : Blk ((w.alloc (.cells #[.int .i64 e0, .int .i64 e1, .int .i64 e2, .int .i64 e3, .int .i64 e4, .int .i64 e5, .slice none 0 0, .slice a n c, .int .i64 e8, .slice none 0 0, .int .i64 e10, .int .u64 e11, .int .u64 e12, .int .i64 e13, .int .i64 e14, .int .i64 e15, .int .i64 e16, .int .i64 e17, .int .i64 e18, .int .i64 e19, .int .i64 e20, .int .i64 e21, .int .i64 e22] 36)).alloc (.cells #[.int .i64 0, .int .i64 0, .int .i64 0, .int .i64 0, .int .i64 0, .int .i64 0, .slice none 0 0, .slice none 0 0, .int .i64 0, .slice none 0 0, .int .i64 0, .int .u64 0, .int .u64 0, .int .i64 0, .int .i64 0, .int .i64 0, .int .i64 0, .int .i64 0, .int .i64 0, .int .i64 0, .int .i64 0, .int .i64 0, .int .i64 0] 36)) w.heap.size _ _ := (Blk.new w _ _).below (bal (Below.refl _ _) _)
  have BZ : Blk ((w.alloc (.cells #[.int .i64 e0, .int .i64 e1, .int .i64 e2, .int .i64 e3, .int .i64 e4, .int .i64 e5, .slice none 0 0, .slice a n c, .int .i64 e8, .slice none 0 0, .int .i64 e10, .int .u64 e11, .int .u64 e12, .int .i64 e13, .int .i64 e14, .int .i64 e15, .int .i64 e16, .int .i64 e17, .int .i64 e18, .int .i64 e19, .int .i64 e20, .int .i64 e21, .int .i64 e22] 36)).alloc (.cells #[.int .i64 0, .int .i64 0, .int .i64 0, .int .i64 0, .int .i64 0, .int .i64 0, .slice none 0 0, .slice none 0 0, .int .i64 0, .slice none 0 0, .int .i64 0, .int .u64 0, .int .u64 0, .int .i64 0, .int .i64 0, .int .i64 0, .int .i64 0, .int .i64 0, .int .i64 0, .int .i64 0, .int .i64 0, .int .i64 0, .int .i64 0] 36)) (w.heap.size + 1) _ _ := Blk.fresh (by simp)
  obtain ⟨W0, hW0⟩ : ∃ W0, (w.alloc (.cells #[.int .i64 e0, .int .i64 e1, .int .i64 e2, .int .i64 e3, .int .i64 e4, .int .i64 e5, .slice none 0 0, .slice a n c, .int .i64 e8, .slice none 0 0, .int .i64 e10, .int .u64 e11, .int .u64 e12, .int .i64 e13, .int .i64 e14, .int .i64 e15, .int .i64 e16, .int .i64 e17, .int .i64 e18, .int .i64 e19, .int .i64 e20, .int .i64 e21, .int .i64 e22] 36)).alloc (.cells #[.int .i64 0, .int .i64 0, .int .i64 0, .int .i64 0, .int .i64 0, .int .i64 0, .slice none 0 0, .slice none 0 0, .int .i64 0, .slice none 0 0, .int .i64 0, .int .u64 0, .int .u64 0, .int .i64 0, .int .i64 0, .int .i64 0, .int .i64 0, .int .i64 0, .int .i64 0, .int .i64 0, .int .i64 0, .int .i64 0, .int .i64 0] 36) = W0 := ⟨_, rfl⟩
  have s0 : W0.heap.size = w.heap.size + 2 := by rw [← hW0]; simp
  have b0 : Below w.heap.size w W0 := by rw [← hW0]; exact bal (bal (Below.refl _ _) _) _
  rw [hW0] at BE BZ
  have y0 := BE.lt
  have y1 := BZ.lt
  have c6 : W0.cell? ⟨w.heap.size, 6, none⟩ = some (.slice none 0 0) := BE.cell 6
  have f6 := BE.free 6
  have c7 : W0.cell? ⟨w.heap.size, 7, none⟩ = some (.slice a n c) := BE.cell 7
  have c9 : W0.cell? ⟨w.heap.size, 9, none⟩ = some (.slice none 0 0) := BE.cell 9
  obtain ⟨hS, kS⟩ := set_same (o := 6) BE (v := .slice none 0 0) rfl
  have BZ2 := kS.blk BZ id
  obtain ⟨W1, hW1⟩ : ∃ W1, W0.setCell ⟨w.heap.size, 6, none⟩ (.slice none 0 0) = W1 := ⟨_, rfl⟩
  rw [hW1] at hS BZ2 kS
  have HBE := Lib.hid hS; have HBZ := Lib.hid BZ2; have HB0 := Lib.hid (btr b0 (kS.toBelow (Nat.le_refl _) fun _ _ => id) : Below w.heap.size w W1)
  have d6 : W1.cell? ⟨w.heap.size, 6, none⟩ = some (.slice none 0 0) := hS.cell 6
  have d7 : W1.cell? ⟨w.heap.size, 7, none⟩ = some (.slice a n c) := hS.cell 7
  have d9 : W1.cell? ⟨w.heap.size, 9, none⟩ = some (.slice none 0 0) := hS.cell 9
  have t0 := hS.lt
  have t1 := BZ2.lt
  clear BE BZ b0 hS BZ2 kS
  go_enter Tryz.func31, Tryz.ntmps31
  go_wp2_with (first
    | (go_at_call 67; refine (cloneLine_nil _).mono ?_; rintro e w1 ⟨rfl, rfl⟩))
  go_rounds 1
  clear c6 f6 c7 c9 hW0 hW1
  go_region_with (first
    | (go_at_call 69; refine (HC.out _ (by (repeat (with_reducible first | exact HB0.out | exact Below.refl _ _ | refine bdr ?_ | refine bdn ?_ _ | refine bal ?_ _)))).mono ?_; rintro e w2 ⟨v, rfl, ho, hb2⟩; obtain ⟨av, cv, rfl, -⟩ := own_form ho; have BE2 := HBE.out.below (btr (by (repeat (with_reducible first | exact Below.refl _ _ | refine bdr ?_ | refine bdn ?_ _ | refine bal ?_ _))) hb2 : Below W1.heap.size W1 w2); have d7 : w2.cell? ⟨w.heap.size, 7, none⟩ = some (.slice a n c) := BE2.cell 7; have d9 : w2.cell? ⟨w.heap.size, 9, none⟩ = some (.slice none 0 0) := BE2.cell 9; have f7 := BE2.free 7; have f9 := BE2.free 9; have y2 := BE2.lt; have z2 := hb2.size; (try simp at z2))
    | (go_at_call 70; refine (cloneObs_nil _).mono ?_; rintro e w3 ⟨rfl, rfl⟩))
  all_goals
    have ew : w.heap.size ≤ w3.heap.size := by omega
    have bb2 : Below W1.heap.size W1 w3 := btr (by (repeat (with_reducible first | exact Below.refl _ _ | refine bdr ?_ | refine bdn ?_ _ | refine bal ?_ _))) hb2
    have BB := btr HB0.out bb2
    have BE3 := (BE2.put 7 (.slice av n cv)).put 9 (.slice none 0 0)
    have KZ := ((Kept.refl (fun k => k = w.heap.size) w3).set (o := 7) (v := .slice av n cv) rfl).set (o := 9) (v := .slice none 0 0) rfl
    have BZ3 := KZ.blk (HBZ.out.below bb2) (by omega)
    have hoB := KZ.own (own_base ho (show w.heap.size + 2 ≤ _ by simp; omega)) (by
      intro g hg e
      have := ((own_base ho (show w.heap.size + 2 ≤ _ by simp; omega)).lt g hg).1
      omega)
    have KB := KZ.toBelow ew (fun i hi e => by omega)
    obtain ⟨W3, hW3⟩ : ∃ W3, (w3.setCell ⟨w.heap.size, 7, none⟩ (.slice av n cv)).setCell ⟨w.heap.size, 9, none⟩ (.slice none 0 0) = W3 := ⟨_, rfl⟩
    rw [hW3] at BE3 BZ3 hoB KB ⊢
    clear hW3 KZ ho hb2 BE2 d7 d9 f7 f9
    have BR := setRow_heap W3 (w.heap.size + 1) _ #[.int .i64 e0, .int .i64 e1, .int .i64 e2, .int .i64 e3, .int .i64 e4, .int .i64 e5, .slice none 0 0, .slice av n cv, .int .i64 e8, .slice none 0 0, .int .i64 e10, .int .u64 e11, .int .u64 e12, .int .i64 e13, .int .i64 e14, .int .i64 e15, .int .i64 e16, .int .i64 e17, .int .i64 e18, .int .i64 e19, .int .i64 e20, .int .i64 e21, .int .i64 e22] _ _ BZ3
    have KR := kept_setRow W3 (w.heap.size + 1) #[.int .i64 e0, .int .i64 e1, .int .i64 e2, .int .i64 e3, .int .i64 e4, .int .i64 e5, .slice none 0 0, .slice av n cv, .int .i64 e8, .slice none 0 0, .int .i64 e10, .int .u64 e11, .int .u64 e12, .int .i64 e13, .int .i64 e14, .int .i64 e15, .int .i64 e16, .int .i64 e17, .int .i64 e18, .int .i64 e19, .int .i64 e20, .int .i64 e21, .int .i64 e22]
    have H1 : (#[.int .i64 e0, .int .i64 e1, .int .i64 e2, .int .i64 e3, .int .i64 e4, .int .i64 e5, .slice none 0 0, .slice av n cv, .int .i64 e8, .slice none 0 0, .int .i64 e10, .int .u64 e11, .int .u64 e12, .int .i64 e13, .int .i64 e14, .int .i64 e15, .int .i64 e16, .int .i64 e17, .int .i64 e18, .int .i64 e19, .int .i64 e20, .int .i64 e21, .int .i64 e22] : Array Value).all (·.oneCell') = true := by rw [List.all_toArray]; rfl
    go_wp2_with (first
      | (refine wpList_load_row rfl 36 (.tmp 1) rfl w.heap.size rfl _ _ _ _ BE3 Tryz.underlying36 rfl evInfo ?_)
      | (refine wpList_store_row rfl 36 (.tmp 2) (.tmp 34) rfl (w.heap.size + 1) _ rfl rfl _ _ BZ3 evInfo rfl H1 ?_))
    refine bodyPost_ret (results_cell_row rfl _ _ _ _ _ _ _ rfl BR Tryz.underlying36 rfl evInfo) rfl ?_
    exact ⟨_, rfl, own_base (b := w.heap.size + 2) (KR.own hoB (by
      intro g hg e
      have := (hoB.lt g hg).1
      omega)) (by omega), (BB.trans KB).trans (KR.toBelow (by have := BB.size; have := KB.size; omega) (fun i hi e => by omega))⟩
end Go.Proofs.YtglhenobodndjaaGreatDoor
