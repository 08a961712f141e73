/- script.Event where a kind is named. -/
import Derived.Test.YtglhenobodndjaaGreatDoorEvn
namespace Go.Proofs.YtglhenobodndjaaGreatDoor
open Go.RowKit
set_option linter.unusedVariables false
set_option linter.unusedSimpArgs false

/-- What fields does with the reader, on an event of kind k. -/
def FieldsAt (w : World) (k : Int) (ws ws' : List ByteArray) (f' : Bool) (Fp : World → Array Value → Prop) : Prop :=
  ∀ (W : World) (rb nb eb : Nat), Below w.heap.size w W → w.heap.size ≤ nb → nb < W.heap.size → w.heap.size ≤ rb → w.heap.size ≤ eb → eb ≠ rb → eb ≠ nb → Rd W rb nb ws false → Blk W eb 36 (evK k) →
    Calls Tryz.prog 32 #[.iface 98 (.pointer (some ⟨rb, 0, none⟩)), .pointer (some ⟨eb, 0, none⟩)] W fun e w' => e = .returned (.tuple #[]) ∧ ∃ cs', cs'.size = 23 ∧ cs'.all (·.oneCell') = true ∧ Rd w' rb nb ws' f' ∧ Blk w' eb 36 cs' ∧ Fp w' cs' ∧ Kept (fun k => k = rb ∨ k = eb) W w'
def EventP (w : World) (ws' : List ByteArray) (f' : Bool) (Fp : World → Array Value → Prop) (e : Ending) (w' : World) : Prop :=
  Below w.heap.size w w' ∧ if f' || !ws'.isEmpty then e = .returned (.tuple #[.agg (evK 0), .bool false]) else ∃ cs' w1, e = .returned (.tuple #[.agg cs', .bool true]) ∧ cs'.size = 23 ∧ Fp w1 cs' ∧ Kept (fun k => k = w.heap.size) w1 w' ∧ w.heap.size ≤ w1.heap.size
set_option maxHeartbeats 8000000 in
theorem event_any (w : World) (s wd : ByteArray) (ws ws' : List ByteArray) (f' : Bool) (k : Int) (Fp : World → Array Value → Prop) (hS : w.ShapedOpen Tryz.prog) (hs : s.size ≤ 100000000) (hsp : Lib.splitB sp1 0 (Lib.countB s sp1) s = wd :: ws) (hk : Lib.idxOfS namesL wd = k) (hk1 : 1 ≤ k)
    (HF0 : FieldsAt w k ws ws' f' Fp) :
    Calls Tryz.prog 17 #[.string s] w (EventP w ws' f' Fp) := by
  have SPL : RowKit.Hid (∀ W, Below w.heap.size w W → Calls Tryz.prog 49 #[.string s, .string ⟨#[32]⟩] W fun e w' => e = .returned (.slice (some ⟨W.heap.size, 0, none⟩) (Lib.countB s sp1 + 1) (Lib.countB s sp1 + 1)) ∧ w' = W.alloc (.cells ((wd :: ws).map Value.string).toArray 9)) := fun W hW => by
    rw [← hsp]
    exact Tryz.strings_Split_shaped s sp1 W (shaped_below hS hW) (by omega) (by decide)
  have hlen : ws.length = Lib.countB s sp1 := by
    have := Lib.splitB_all sp1 (by decide) 0 _ s rfl
    rw [hsp] at this
    simpa using this
  obtain ⟨n, hn⟩ : ∃ n, Lib.countB s sp1 = n := ⟨_, rfl⟩
  rw [hn] at SPL hlen
  have hnle : n ≤ 100000000 := by
    have := Lib.countB_le sp1 (by decide) s.size s (Nat.le_refl _)
    omega
  have IDX : RowKit.Hid (∀ b W, Blk W b 9 (namesL.map Value.string).toArray → Calls Tryz.prog 50 #[.slice (some ⟨b, 0, none⟩) 18 18, .string wd] W fun e w' => e = .returned (.int .i64 k) ∧ w' = W) := fun b W hB => by
    have := Tryz.slices_Index_string b 0 18 18 namesL wd W (by decide) (by decide) (fun j hj => by
      rw [Nat.zero_add, hB.cell j]
      simp [List.getD_eq_getElem?_getD, List.getElem?_eq_getElem hj])
    rw [show namesL.take 18 = namesL from rfl, hk] at this
    exact this
  have n0 : (0 : Int) ≤ (n : Int) + 1 := by omega
  have n1 : (0 : Int) < (n : Int) + 1 := by omega
  have HF := Lib.hid HF0
  have k1 : ¬ k < 1 := by omega
  have n2 : (1 : Int) ≤ (n : Int) + 1 := by omega
  have n3 : (1 : Nat) ≤ n + 1 := by omega
  clear hsp hS hk hn HF0
  go_enter Tryz.func17, Tryz.ntmps17
  go_wp2_with (go_at_call 49; refine (SPL.out _ (by (repeat (with_reducible first | exact Below.refl _ _ | refine bdr ?_ | refine bdn ?_ _ | refine bal ?_ _)))).mono ?_; rintro e w1 ⟨rfl, rfl⟩)
  have BZ : Blk ((w.alloc (.cells (evK 0) 36)).alloc (.cells (Value.string wd :: ws.map Value.string).toArray 9)) w.heap.size _ _ := (Blk.new w _ _).below (bal (Below.refl _ _) _)
  have BW : Blk ((w.alloc (.cells (evK 0) 36)).alloc (.cells (Value.string wd :: ws.map Value.string).toArray 9)) (w.heap.size + 1) _ _ := Blk.fresh (by simp)
  have bb0 : Below w.heap.size w ((w.alloc (.cells (evK 0) 36)).alloc (.cells (Value.string wd :: ws.map Value.string).toArray 9)) := bal (bal (Below.refl _ _) _) _
  obtain ⟨W1, hW1⟩ : ∃ W1, (w.alloc (.cells (evK 0) 36)).alloc (.cells (Value.string wd :: ws.map Value.string).toArray 9) = W1 := ⟨_, rfl⟩
  rw [hW1] at BZ BW bb0
  unfold evK at hW1
  rw [hW1]
  have x0 : W1.cell? ⟨w.heap.size + 1, 0, none⟩ = some (.string wd) := (BW.cell 0).trans (by simp)
  have y0 := BW.lt
  have HBZ := Lib.hid BZ; have HB0 := Lib.hid bb0; have HBW := Lib.hid BW
  clear hW1 BZ BW bb0
  go_region_held3 (fun w' => w'.cell? ⟨w.heap.size + 1, 0, none⟩ = some (.string wd)) (simp [go_sem, *])
    (first
    | (go_at_call 30; refine (names_any _).mono ?_; rintro e w2 ⟨rfl, rfl⟩)
    | (go_at_call 50; refine (IDX.out _ _ (by first | exact Blk.fresh rfl | exact (Blk.fresh rfl).drew)).mono ?_; rintro e w3 ⟨rfl, rfl⟩))
  all_goals
    go_upto_region 6 with fail
    obtain ⟨off, hoff⟩ : ∃ off : Nat, (if n = 0 then some (⟨w.heap.size + 1, 0, none⟩ : Addr) else some ⟨w.heap.size + 1, 1, none⟩) = some ⟨w.heap.size + 1, off, none⟩ ∧ (0 < n → off = 1) := by
      by_cases h : n = 0
      · exact ⟨0, by rw [if_pos h], by omega⟩
      · exact ⟨1, by rw [if_neg h], fun _ => rfl⟩
    rw [hoff.1]
    have RD : Rd ((W1.alloc (Obj.cells (List.map Value.string namesL).toArray 9)).alloc (Obj.cells #[Value.slice (some ⟨w.heap.size + 1, off, none⟩) n n, Value.bool false] 99)).drew (W1.heap.size + 1) (w.heap.size + 1) ws false := by
      refine ⟨⟨off, n, by rw [hlen]; exact (Blk.fresh (by simp)).drew, fun i s hi => ?_, by omega, by omega⟩, by omega⟩
      have hi2 := (List.getElem?_eq_some_iff.1 hi).1
      have := hoff.2 (by omega)
      subst this
      refine bc1 ((by (repeat (with_reducible first | exact Below.refl _ _ | refine bdr ?_ | refine bdn ?_ _ | refine bal ?_ _))) : Below W1.heap.size W1 _) ((HBW.out.cell (1 + i)).trans ?_)
      rw [Nat.add_comm]
      simpa using hi
    obtain ⟨W2, hW2⟩ : ∃ W2, ((W1.alloc (Obj.cells (List.map Value.string namesL).toArray 9)).alloc (Obj.cells #[Value.slice (some ⟨w.heap.size + 1, off, none⟩) n n, Value.bool false] 99)).drew = W2 := ⟨_, rfl⟩
    have b2 : Below W1.heap.size W1 W2 := hW2 ▸ (by (repeat (with_reducible first | exact Below.refl _ _ | refine bdr ?_ | refine bdn ?_ _ | refine bal ?_ _)))
    rw [hW2] at RD ⊢
    clear hoff hW2
    have HRD := Lib.hid RD; have HB2 := Lib.hid b2
    have yr := RD.lt
    clear RD b2
    have E3 : Blk ((W2.alloc (.cells #[.int .i64 0, .int .i64 0, .int .i64 0, .int .i64 0, .int .i64 0, .int .i64 0, .slice none 0 0, .slice none 0 0, .int .i64 0, .slice none 0 0, .int .i64 0, .int .u64 0, .int .u64 0, .int .i64 0, .int .i64 0, .int .i64 0, .int .i64 0, .int .i64 0, .int .i64 0, .int .i64 0, .int .i64 0, .int .i64 0, .int .i64 0] 36)).setRow W2.heap.size (evK k)) W2.heap.size 36 (evK k) := setRow_heap _ _ _ _ _ _ (Blk.new W2 _ _)
    have B3 : Below W2.heap.size W2 ((W2.alloc (.cells #[.int .i64 0, .int .i64 0, .int .i64 0, .int .i64 0, .int .i64 0, .int .i64 0, .slice none 0 0, .slice none 0 0, .int .i64 0, .slice none 0 0, .int .i64 0, .int .u64 0, .int .u64 0, .int .i64 0, .int .i64 0, .int .i64 0, .int .i64 0, .int .i64 0, .int .i64 0, .int .i64 0, .int .i64 0, .int .i64 0, .int .i64 0] 36)).setRow W2.heap.size (evK k)) := (bal (Below.refl _ _) _ : Below W2.heap.size W2 (W2.alloc (.cells #[.int .i64 0, .int .i64 0, .int .i64 0, .int .i64 0, .int .i64 0, .int .i64 0, .slice none 0 0, .slice none 0 0, .int .i64 0, .slice none 0 0, .int .i64 0, .int .u64 0, .int .u64 0, .int .i64 0, .int .i64 0, .int .i64 0, .int .i64 0, .int .i64 0, .int .i64 0, .int .i64 0, .int .i64 0, .int .i64 0, .int .i64 0] 36))).trans ((kept_setRow _ _ _).toBelow (by simp) fun i hi e => by omega)
    obtain ⟨W3, hW3⟩ : ∃ W3, (W2.alloc (.cells #[.int .i64 0, .int .i64 0, .int .i64 0, .int .i64 0, .int .i64 0, .int .i64 0, .slice none 0 0, .slice none 0 0, .int .i64 0, .slice none 0 0, .int .i64 0, .int .u64 0, .int .u64 0, .int .i64 0, .int .i64 0, .int .i64 0, .int .i64 0, .int .i64 0, .int .i64 0, .int .i64 0, .int .i64 0, .int .i64 0, .int .i64 0] 36)).setRow W2.heap.size (evK k) = W3 := ⟨_, rfl⟩
    rw [hW3] at E3 B3
    have sz1 := HB0.out.size
    have sz2 := HB2.out.size
    have sz3 := E3.lt
    have CF := HF.out W3 (W1.heap.size + 1) (w.heap.size + 1) W2.heap.size (btr (btr HB0.out HB2.out) B3) (by omega) (by omega) (by omega) (by omega) (by omega) (by omega) (HRD.out.behind B3) E3
    have HCF := Lib.hid CF; have HB3 := Lib.hid B3
    clear CF E3 B3
    go_wp2_with (refine wpList_store_row rfl 36 (.tmp 7) (.tmp 23) rfl W2.heap.size (evK k) rfl rfl _ _ (Blk.fresh rfl) evInfo rfl (evK_one k) ?_)
    clear hW3
    refine HCF.out.mono ?_
    rintro e w4 ⟨rfl, cs', hsz, hone, hr4, he4, hfp, hk4⟩
    obtain ⟨⟨off4, c4, hb4, -⟩, -⟩ := hr4
    have BZ4 : Blk w4 w.heap.size 36 (evK 0) := hk4.blk ((HBZ.out.below HB2.out).below HB3.out) (fun c => by rcases c with c | c <;> omega)
    have HBB : RowKit.Hid (Below w.heap.size w w4) := Lib.hid ((btr (btr HB0.out HB2.out) HB3.out).trans (hk4.toBelow (by omega) (fun i hi c => by rcases c with c | c <;> omega)))
    have zs := HBB.out.size
    have ys := he4.lt
    have z0 := hb4.cell 0
    have z1 := hb4.cell 1
    have yz := hb4.lt
    simp at z0 z1
    have HFP := Lib.hid hfp; have HHE := Lib.hid he4; have HSZ := Lib.hid hsz; have HON := Lib.hid hone
    clear hk4 hb4 hfp he4 hsz hone
    unfold EventP
    cases f' with
    | true =>
      go_wp2_with (refine wpList_store_row rfl 36 (.tmp 2) (.tmp 39) rfl w.heap.size (evK 0) rfl rfl _ _ BZ4 evInfo rfl (evK_one 0) ?_)
      refine bodyPost_ret (results_row_tmp rfl _ _ w.heap.size _ rfl (load_ev (setRow_heap w4 w.heap.size _ (evK 0) _ _ BZ4) rfl)) rfl ?_
      refine ⟨HBB.out.trans ((kept_setRow _ _ _).toBelow zs fun i hi e => by omega), ?_⟩
      exact rfl
    | false =>
      cases ws' with
      | nil =>
        go_wp2_with (first
          | (refine wpList_load_row rfl 36 (.tmp 7) rfl W2.heap.size rfl _ _ _ _ HHE.out Tryz.underlying36 rfl (by rw [HSZ.out]; exact evInfo) ?_)
          | (refine wpList_store_row rfl 36 (.tmp 2) (.tmp 40) rfl w.heap.size cs' rfl rfl _ _ BZ4 (by rw [HSZ.out]; exact evInfo) HSZ.out.symm HON.out ?_))
        refine bodyPost_ret (results_row_tmp rfl _ _ w.heap.size _ rfl (load_ev (setRow_heap w4 w.heap.size _ cs' _ _ BZ4) HSZ.out)) rfl ?_
        refine ⟨HBB.out.trans ((kept_setRow _ _ _).toBelow zs fun i hi e => by omega), ?_⟩
        exact ⟨cs', _, rfl, HSZ.out, HFP.out, kept_setRow _ _ _, zs⟩
      | cons x ws' =>
        go_wp2_with (refine wpList_store_row rfl 36 (.tmp 2) (.tmp 39) rfl w.heap.size (evK 0) rfl rfl _ _ BZ4 evInfo rfl (evK_one 0) ?_)
        refine bodyPost_ret (results_row_tmp rfl _ _ w.heap.size _ rfl (load_ev (setRow_heap w4 w.heap.size _ (evK 0) _ _ BZ4) rfl)) rfl ?_
        refine ⟨HBB.out.trans ((kept_setRow _ _ _).toBelow zs fun i hi e => by omega), ?_⟩
        exact rfl
end Go.Proofs.YtglhenobodndjaaGreatDoor
