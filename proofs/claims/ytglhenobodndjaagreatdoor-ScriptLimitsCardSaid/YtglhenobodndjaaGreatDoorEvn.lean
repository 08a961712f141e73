/- script.names, and script.Event by what fields does. -/
import Derived.Test.YtglhenobodndjaaGreatDoorFr
import Derived.Laws.ResultCell
import Derived.Test.YtglhenobodndjaaGreatDoorShelf
namespace Go.Proofs.YtglhenobodndjaaGreatDoor
open Go.RowKit
set_option linter.unusedVariables false
set_option linter.unusedSimpArgs false

/-- The first words of the kinds. -/
def namesL : List ByteArray := [⟨#[]⟩, ⟨#[100, 97, 121]⟩, ⟨#[97, 112, 112, 108, 121]⟩, ⟨#[119, 105, 116, 104, 100, 114, 97, 119]⟩, ⟨#[121, 105, 101, 108, 100]⟩, ⟨#[98, 111, 114, 100, 101, 114]⟩, ⟨#[115, 101, 97, 115, 111, 110]⟩, ⟨#[115, 101, 97, 108]⟩, ⟨#[99, 108, 111, 115, 101]⟩, ⟨#[114, 101, 118, 101, 97, 108]⟩, ⟨#[102, 105, 110, 105, 115, 104]⟩, ⟨#[99, 104, 111, 111, 115, 101]⟩, ⟨#[110, 111, 116, 105, 99, 101]⟩, ⟨#[114, 101, 112, 111, 114, 116]⟩, ⟨#[97, 99, 116]⟩, ⟨#[97, 115, 115, 101, 115, 115]⟩, ⟨#[108, 111, 100, 103, 101]⟩, ⟨#[97, 110, 115, 119, 101, 114]⟩]
theorem namesL_len : namesL.length = 18 := rfl
set_option maxHeartbeats 2000000 in
theorem names_any (w : World) : Calls Tryz.prog 30 #[] w fun e w' => e = .returned (.slice (some ⟨w.heap.size, 0, none⟩) 18 18) ∧ w' = w.alloc (.cells (namesL.map Value.string).toArray 9) := by
  have z9 := Tryz.zeroValue9
  simp only [namesL, List.map_cons, List.map_nil]
  go_enter Tryz.func30, Tryz.ntmps30
  go_wp2
  go_ret
  exact ⟨rfl, rfl⟩
end Go.Proofs.YtglhenobodndjaaGreatDoor
/- script.Event, by what fields does. -/
namespace Go.Proofs.YtglhenobodndjaaGreatDoor
open Go.RowKit
set_option linter.unusedVariables false
set_option linter.unusedSimpArgs false

/-- The event of a kind. -/
def evK (k : Int) : Array Value := #[.int .i64 k, .int .i64 0, .int .i64 0, .int .i64 0, .int .i64 0, .int .i64 0, .slice none 0 0, .slice none 0 0, .int .i64 0, .slice none 0 0, .int .i64 0, .int .u64 0, .int .u64 0, .int .i64 0, .int .i64 0, .int .i64 0, .int .i64 0, .int .i64 0, .int .i64 0, .int .i64 0, .int .i64 0, .int .i64 0, .int .i64 0]
def sp1 : ByteArray := ⟨#[32]⟩
theorem results_row_tmp {fn : Func} {p u : Tmp} {ty : TypeId} {P : Program} (h : fn.results = #[.cell p ty, .tmp u]) (tmps : Array Value) (w : World) (g : Nat) (v : Value)
    (hp : tmps.getD p undef = .pointer (some ⟨g, 0, none⟩)) (hl : (loadVar ty ⟨g, 0, none⟩).run P w = .ok v w) :
    (results fn tmps).run P w = .ok (.tuple #[v, tmps.getD u undef]) w := by
  rw [results_cell_tmp h, hp]
  simp only [asAddr, Sem.run_pure, Result.andThen_ok, hl]
theorem evK_one (k : Int) : (evK k).all (·.oneCell') = true := by unfold evK; rw [List.all_toArray]; rfl
theorem load_ev {w : World} {g : Nat} {cs : Array Value} (h : Blk w g 36 cs) (hs : cs.size = 23) : (loadVar 36 ⟨g, 0, none⟩).run Tryz.prog w = .ok (.agg cs) w :=
  run_loadVar_row w g _ _ cs _ _ h Tryz.underlying36 rfl (by rw [hs]; exact evInfo)
set_option maxHeartbeats 8000000 in
theorem event_none (w : World) (s wd : ByteArray) (ws : List ByteArray) (k : Int) (hS : w.ShapedOpen Tryz.prog) (hs : s.size ≤ 100000000) (hsp : Lib.splitB sp1 0 (Lib.countB s sp1) s = wd :: ws) (hk : Lib.idxOfS namesL wd = k) (hk1 : k < 1) :
    Calls Tryz.prog 17 #[.string s] w fun e w' => e = .returned (.tuple #[.agg (evK 0), .bool false]) ∧ Below w.heap.size w w' := by
  have SPL : RowKit.Hid (∀ W, Below w.heap.size w W → Calls Tryz.prog 49 #[.string s, .string ⟨#[32]⟩] W fun e w' => e = .returned (.slice (some ⟨W.heap.size, 0, none⟩) (Lib.countB s sp1 + 1) (Lib.countB s sp1 + 1)) ∧ w' = W.alloc (.cells ((wd :: ws).map Value.string).toArray 9)) := fun W hW => by
    rw [← hsp]
    exact Tryz.strings_Split_shaped s sp1 W (shaped_below hS hW) (by omega) (by decide)
  have hlen : ws.length = Lib.countB s sp1 := by
    have := Lib.splitB_all sp1 (by decide) 0 _ s rfl
    rw [hsp] at this
    simpa using this
  obtain ⟨n, hn⟩ : ∃ n, Lib.countB s sp1 = n := ⟨_, rfl⟩
  rw [hn] at SPL hlen
  have hnle : n ≤ 100000000 := by
    have := Lib.countB_le sp1 (by decide) s.size s (Nat.le_refl _)
    omega
  have IDX : RowKit.Hid (∀ b W, Blk W b 9 (namesL.map Value.string).toArray → Calls Tryz.prog 50 #[.slice (some ⟨b, 0, none⟩) 18 18, .string wd] W fun e w' => e = .returned (.int .i64 k) ∧ w' = W) := fun b W hB => by
    have := Tryz.slices_Index_string b 0 18 18 namesL wd W (by decide) (by decide) (fun j hj => by
      rw [Nat.zero_add, hB.cell j]
      simp [List.getD_eq_getElem?_getD, List.getElem?_eq_getElem hj])
    rw [show namesL.take 18 = namesL from rfl, hk] at this
    exact this
  have n0 : (0 : Int) ≤ (n : Int) + 1 := by omega
  have n1 : (0 : Int) < (n : Int) + 1 := by omega
  clear hsp hS hk hn
  go_enter Tryz.func17, Tryz.ntmps17
  go_wp2_with (go_at_call 49; refine (SPL.out _ (by (repeat (with_reducible first | exact Below.refl _ _ | refine bdr ?_ | refine bdn ?_ _ | refine bal ?_ _)))).mono ?_; rintro e w1 ⟨rfl, rfl⟩)
  have BZ : Blk ((w.alloc (.cells (evK 0) 36)).alloc (.cells (Value.string wd :: ws.map Value.string).toArray 9)) w.heap.size _ _ := (Blk.new w _ _).below (bal (Below.refl _ _) _)
  have BW : Blk ((w.alloc (.cells (evK 0) 36)).alloc (.cells (Value.string wd :: ws.map Value.string).toArray 9)) (w.heap.size + 1) _ _ := Blk.fresh (by simp)
  have bb0 : Below w.heap.size w ((w.alloc (.cells (evK 0) 36)).alloc (.cells (Value.string wd :: ws.map Value.string).toArray 9)) := bal (bal (Below.refl _ _) _) _
  obtain ⟨W1, hW1⟩ : ∃ W1, (w.alloc (.cells (evK 0) 36)).alloc (.cells (Value.string wd :: ws.map Value.string).toArray 9) = W1 := ⟨_, rfl⟩
  rw [hW1] at BZ BW bb0
  unfold evK at hW1
  rw [hW1]
  have x0 : W1.cell? ⟨w.heap.size + 1, 0, none⟩ = some (.string wd) := (BW.cell 0).trans (by simp)
  have y0 := BW.lt
  have HBZ := Lib.hid BZ; have HB0 := Lib.hid bb0
  clear hW1 BZ BW bb0
  go_region_held3 (fun w' => w'.cell? ⟨w.heap.size + 1, 0, none⟩ = some (.string wd)) (simp [go_sem, *])
    (first
    | (go_at_call 30; refine (names_any _).mono ?_; rintro e w2 ⟨rfl, rfl⟩)
    | (go_at_call 50; refine (IDX.out _ _ (by first | exact Blk.fresh rfl | exact (Blk.fresh rfl).drew)).mono ?_; rintro e w3 ⟨rfl, rfl⟩))
  all_goals
    go_wp2_with (refine wpList_store_row rfl 36 (.tmp 2) (.tmp 17) rfl w.heap.size (evK 0) rfl rfl _ _ (HBZ.out.below (by (repeat (with_reducible first | exact Below.refl _ _ | refine bdr ?_ | refine bdn ?_ _ | refine bal ?_ _)))) evInfo rfl (evK_one 0) ?_)
    refine bodyPost_ret (results_row_tmp rfl _ _ w.heap.size _ rfl (load_ev (setRow_heap _ w.heap.size _ (evK 0) _ _ (HBZ.out.below (by (repeat (with_reducible first | exact Below.refl _ _ | refine bdr ?_ | refine bdn ?_ _ | refine bal ?_ _))))) rfl)) rfl ?_
    refine ⟨rfl, (btr HB0.out (by (repeat (with_reducible first | exact Below.refl _ _ | refine bdr ?_ | refine bdn ?_ _ | refine bal ?_ _)))).trans ((kept_setRow _ _ _).toBelow ?_ fun i hi e => by omega)⟩
    have := HB0.out.size
    simp
    omega
end Go.Proofs.YtglhenobodndjaaGreatDoor
