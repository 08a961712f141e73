/- The walk of SeasonChecks: it answers true. -/
import Derived.Test.YtlfcdjgmegfjoaaSawake
import Derived.Test.YtlfcdjgmegfjoaaNewt
import Derived.Deep.AppendLies
import Derived.Laws.AppendOwnNone
import Derived.Deep.RegionLaw
namespace Go.Proofs.Ytlfcdjgmegfjoaa
open Go.RowKit Go.Shelf
set_option linter.unusedVariables false
set_option linter.unusedSimpArgs false

/-- An append of nothing at a region's operation. -/
theorem step_append_none {P : Program} {ops : Array Oper} {o : Oper} {a : Act} {w : World} {K : Act → World → Prop} {Q : Exit → Act → World → Prop} {E : Prop} (hgd : o.guard = none) (s x : Operand) (t : TypeId)
    (ho : o.op = .call { callee := .builtin .append, args := #[s, x], argTypes := #[t, t] })
    (base : Nat) (e : TypeId) (i : TypeInfo) (size : Nat) (ht : P.underlying t = some (.slice e)) (hi : P.info? e = some i)
    (v : Value) (n : Nat) (xs : List Value) (hs : a.eval s = v) (hown : w.ownsRow base e size v n xs) (hx : a.eval x = .slice none 0 0)
    (h : K (a.put o.dst v) w) : if Region.wanted o (yielded ops a.tmps) = true then Oper.wp P o a w K Q else E := by
  rw [if_pos (by simp [Region.wanted, hgd])]
  have hrun := run_append_owned_none (P := P) (w := w) base t o.type e i size ht hi v n xs hown
  unfold Oper.wp
  simp [execOp, ho, resolve, invoke, builtin, hs, hx, hrun, Result.andThen]
  exact h
theorem empty_row {w : World} {g base : Nat} {t : TypeId} (h : Blk w g t #[]) (hb : base ≤ g) : w.ownsRow base t 2 (.slice (some ⟨g, 0, none⟩) 0 0) 0 [] := ⟨rfl, .inr ⟨g, 0, #[], rfl, hb, h, Nat.le_refl _, Nat.zero_le _, rfl, rfl⟩⟩
theorem below_grown {W w1 : World} {n k : Nat} (hg : W.grownBy w1 (some k)) (hn : n ≤ W.heap.size) (hk : n ≤ k) : Below n W w1 := ⟨hg.os, hg.tape, hg.output, hg.size, fun i hi => hg.block i (by omega) (by simp; omega)⟩
theorem oneCell_encO (l : List (Int × Int)) : ∀ u ∈ encO l, u.oneCell' = true := by
  intro u hu
  simp only [encO, List.mem_flatMap] at hu
  obtain ⟨o, _, h⟩ := hu
  simp at h
  rcases h with rfl | rfl <;> rfl
theorem ib_of_row {w : World} {base g : Nat} {cap : Nat} {t : TypeId} {l : List (Int × Int)} (h : w.ownsRow base t 2 (.slice (some ⟨g, 0, none⟩) l.length cap) l.length (encO l)) : base ≤ g ∧ IB w g (l.length * 2) := by
  rcases h.2 with ⟨h0, _⟩ | ⟨g', cap', cur, hv, hb, hg, hn, hm, hs, ht⟩
  · cases h0
  · cases hv
    refine ⟨hb, t, cur, hg, fun j hj => ?_⟩
    have e : (encO l)[j]? = cur[j]? := by rw [← ht, List.getElem?_take]; simp [hj]
    have hev : j = (j / 2) * 2 ∨ j = (j / 2) * 2 + 1 := by omega
    rcases hev with h2 | h2
    · exact ⟨_, by rw [← e, h2]; exact (encO_at l (j / 2) (by omega)).1⟩
    · exact ⟨_, by rw [← e, h2]; exact (encO_at l (j / 2) (by omega)).2⟩
/-- A block of integers reads as some observations. -/
theorem ser_of_ib {w : World} {g n : Nat} (h : IB w g (n * 2)) : ∃ l : List (Int × Int), l.length = n ∧ Ser w (some ⟨g, 0, none⟩) l := by
  have hz : ∀ j, ∃ z : Int, j < n * 2 → w.cell? ⟨g, j, none⟩ = some (.int .i64 z) := fun j => by
    by_cases hj : j < n * 2
    · obtain ⟨z, h1, _⟩ := h.at_ j hj; exact ⟨z, fun _ => h1⟩
    · exact ⟨0, fun h => absurd h hj⟩
  obtain ⟨z, hz⟩ := Classical.axiomOfChoice hz
  refine ⟨(List.range n).map fun j => (z (j * 2), z (j * 2 + 1)), by simp, fun j hj => ⟨g, 0, rfl, ?_, ?_⟩⟩
  · have hjn : j < n := by simpa using hj
    rw [Nat.zero_add]
    simpa [ob, hjn] using hz (j * 2) (by omega)
  · have hjn : j < n := by simpa using hj
    rw [Nat.zero_add]
    simpa [ob, hjn] using hz (j * 2 + 1) (by omega)
theorem row_blk_ne {w : World} {base g k n cap : Nat} {e t : TypeId} {xs : List Value} {cs : Array Value} (h : w.ownsRow base e 2 (.slice (some ⟨g, 0, none⟩) n cap) n xs) (hb : Blk w k t cs) (hte : t ≠ e) : k ≠ g := by
  rintro rfl
  rcases h.2 with ⟨h0, _⟩ | ⟨g', cap', cur, hv, _, hg, _⟩
  · cases h0
  · cases hv
    rw [show w.heap[k]? = _ from hb] at hg
    cases hg; exact hte rfl
/-- Behind the copy: its box, its row. -/
def ChA (W3 : World) (s : Int) (len : Nat) (v15 : Value) (wx : World) : Prop :=
  ∃ g15 g2 cap2 : Nat, v15 = .pointer (some ⟨g15, 0, none⟩) ∧ W3.heap.size ≤ g15 ∧ W3.heap.size ≤ g2 ∧ g15 ≠ g2 ∧ Blk wx g15 25 #[.int .i64 s, .slice (some ⟨g2, 0, none⟩) len cap2] ∧ IB wx g2 (len * 2) ∧ Below W3.heap.size W3 wx

theorem ib_step {w w' : World} {g n b : Nat} (h : IB w g n) (hs : Steps1 b w w') (hg : g ≠ b) : IB w' g n := by
  obtain ⟨t, cs, h1, h2⟩ := h; exact ⟨t, cs, h1.step hs hg, h2⟩
theorem ib_flat {w : World} {g n : Nat} (h : IB w g n) : ∃ z : Nat → Int, (∀ j, j < n → w.cell? ⟨g, j, none⟩ = some (.int .i64 (z j))) ∧ ∀ j, j < n → w.frozen? ⟨g, j, none⟩ = false := by
  have hz : ∀ j, ∃ z : Int, j < n → w.cell? ⟨g, j, none⟩ = some (.int .i64 z) := fun j => by
    by_cases hj : j < n
    · obtain ⟨z, h1, _⟩ := h.at_ j hj; exact ⟨z, fun _ => h1⟩
    · exact ⟨0, fun h => absurd h hj⟩
  obtain ⟨z, hz⟩ := Classical.axiomOfChoice hz
  exact ⟨z, hz, fun j hj => by obtain ⟨_, _, h2⟩ := h.at_ j hj; exact h2⟩
/-- Behind the change of the copy. -/
def ChB (s : Int) (n0 g15 len b : Nat) (w W3 wx : World) : Prop :=
  ∃ g2 cap2 : Nat, Blk wx g15 25 #[.int .i64 s, .slice (some ⟨g2, 0, none⟩) len cap2] ∧ IB wx g2 (len * 2) ∧ Steps1 b W3 wx ∧ Below w.heap.size w wx
/-- A loop that keeps what was. -/
def ChL (W : World) (n : Nat) (v : Value) (wr : World) : Prop := ∃ k : Nat, v = .int .i64 k ∧ k ≤ n ∧ Below W.heap.size W wr
set_option maxRecDepth 100000 in
set_option maxHeartbeats 8000000 in
theorem checks_walk (a0 : Option Addr) (len0 cap0 : Nat) (z0 : List Int) (rs : Int) (ra : Option Addr) (rlen rcap : Nat) (rl : List (Int × Int)) (k f u v day at_ by_ : Int) (w : World) (hr : IsRow .i64 w a0 len0 cap0 z0) (hS : Ser w ra rl) (hl : rl.length = rlen) (hcap : rlen ≤ 9223372036854775807) :
    Calls Try.prog 3 #[.slice a0 len0 cap0, .agg #[.int .i64 rs, .slice ra rlen rcap], .agg #[.int .i64 k, .int .i64 f, .int .i64 u, .int .i64 v], .int .i64 day, .int .i64 at_, .int .i64 by_] w fun e w' => e = .returned (.bool true) ∧ Below w.heap.size w w' := by
  obtain ⟨i0, hi, hz0, hz1, hz2⟩ := info_parts Try.infoO
  have HI := Lib.hid hi
  have HZ := Lib.hid (And.intro hz0 (And.intro hz1 hz2))
  clear hi hz0 hz1 hz2
  have R := Lib.hid ((hr.alloc (.cells #[.int .i64 rs, .slice ra rlen rcap] 25)).alloc (.cells #[.int .i64 k, .int .i64 f, .int .i64 u, .int .i64 v] 27))
  have RS := Lib.hid hS; have RL := Lib.hid hl
  clear hr hS hl
  go_enter Try.func3, Try.ntmps3
  by_cases h70 : 70 < rlen
  · have h70' : (70 : Int) < (rlen : Int) := by omega
    go_wp2_with (go_at_call 9; refine (awake_any _).mono ?_; rintro e w1 ⟨rfl, hb1⟩)
    go_ret
    exact ⟨rfl, btr (bal (bal (Below.refl _ _) _) _) hb1⟩
  have h70' : ¬ (70 : Int) < (rlen : Int) := by omega
  clear h70
  go_wp2_with fail
  refine (new_any _ _ _ _ _ R.out).mono ?_
  rintro e w1 ⟨rfl, hb1, hT1⟩
  have BR1 := Lib.hid (((Blk.fresh (w := w) (g := w.heap.size) (t := 25) (cs := #[.int .i64 rs, .slice ra rlen rcap]) rfl).alloc (.cells #[.int .i64 k, .int .i64 f, .int .i64 u, .int .i64 v] 27)).below hb1)
  have BP1 := Lib.hid (Blk.below (Blk.fresh (w := w.alloc (.cells #[.int .i64 rs, .slice ra rlen rcap] 25)) (g := w.heap.size + 1) (t := 27) (cs := #[.int .i64 k, .int .i64 f, .int .i64 u, .int .i64 v]) (by simp)) hb1)
  have L1 := Lib.hid (btr (bal (bal (Below.refl w.heap.size w) (.cells #[.int .i64 rs, .slice ra rlen rcap] 25)) (.cells #[.int .i64 k, .int .i64 f, .int .i64 u, .int .i64 v] 27)) hb1)
  have hz1 := hT1.lt
  (try simp at hz1 hT1)
  have T1 := Lib.hid hT1
  clear hb1 hT1
  go_wp2_with fail
  refine (series_any _ _ T1.out).mono ?_
  rintro e w2 ⟨s, l, sv, rfl, s1, s2, l6, hR, hrow, hnil, hs2⟩
  have BR2 := Lib.hid (BR1.out.step hs2 (by omega)); have BP2 := Lib.hid (BP1.out.step hs2 (by omega)); have L2 := Lib.hid (bos L1.out (by omega) hs2); have T2 := Lib.hid hs2.now
  have z2 := hs2.size
  obtain ⟨a, cap, rfl, hSN, hlc, hcm⟩ := ser_of_row hrow
  have SN := Lib.hid hSN; have ROW := Lib.hid hrow; have NIL := Lib.hid hnil; have RI := Lib.hid hR
  unfold maxLen at hcm
  clear hs2 hrow hSN hnil hR BR1 BP1 L1 T1
  go_upto_region 5 with fail
  have BS3 := Lib.hid (Blk.fresh (w := w2) (g := w2.heap.size) (t := 25) (cs := #[.int .i64 s, .slice a l.length cap]) rfl)
  have BR3 := Lib.hid (BR2.out.alloc (.cells #[.int .i64 s, .slice a l.length cap] 25)); have BP3 := Lib.hid (BP2.out.alloc (.cells #[.int .i64 s, .slice a l.length cap] 25)); have L3 := Lib.hid (bal L2.out (.cells #[.int .i64 s, .slice a l.length cap] 25)); have T3 := Lib.hid (T2.out.alloc (.cells #[.int .i64 s, .slice a l.length cap] 25))
  have SN3 := Lib.hid (SN.out.below ((Below.refl _ _).alloc (Nat.le_refl _) (.cells #[.int .i64 s, .slice a l.length cap] 25))); have ROW3 := Lib.hid (ROW.out.alloc (.cells #[.int .i64 s, .slice a l.length cap] 25))
  have hz3 : (w2.alloc (.cells #[.int .i64 s, .slice a l.length cap] 25)).heap.size = w2.heap.size + 1 := by simp
  obtain ⟨W3, hW3⟩ : ∃ W3, w2.alloc (.cells #[.int .i64 s, .slice a l.length cap] 25) = W3 := ⟨_, rfl⟩
  rw [hW3] at BS3 BR3 BP3 L3 T3 SN3 ROW3 hz3 ⊢
  have z3 : w2.heap.size < W3.heap.size := by omega
  have z4 : W3.heap.size ≤ w2.heap.size + 1 := by omega
  clear hW3 hz3 BR2 BP2 L2 T2 SN ROW
  have c0 : W3.cell? ⟨w2.heap.size, 0, none⟩ = some (.int .i64 s) := BS3.out.cell 0
  have c1 : W3.cell? ⟨w2.heap.size, 1, none⟩ = some (.slice a l.length cap) := BS3.out.cell 1
  obtain ⟨len, hlen⟩ : ∃ n, l.length = n := ⟨_, rfl⟩
  have HLEN := Lib.hid hlen
  rw [hlen] at ROW3 BS3 c1 l6 hlc ⊢
  clear hlen
  go_cut [15] (fun v15 wx => ChA W3 s len v15 wx)
  case first =>
    by_cases h0 : len = 0
    · have hle : l = [] := List.eq_nil_of_length_eq_zero (by rw [HLEN.out]; exact h0)
      have hn := NIL.out hle
      rw [HLEN.out] at hn
      obtain ⟨rfl, rfl, rfl⟩ : a = none ∧ len = 0 ∧ cap = 0 := by simpa using hn
      clear hn hle h0
      go_region_held3 (fun w' => w'.cell? ⟨w2.heap.size, 0, none⟩ = some (.int .i64 s) ∧ w'.cell? ⟨w2.heap.size, 1, none⟩ = some (.slice none 0 0)) (simp [go_sem, *])
        (first
        | (refine step_append_none (by rfl) _ _ _ (by rfl) W3.heap.size 34 i0 2 Try.underlying23 HI.out (.slice (some ⟨W3.heap.size, 0, none⟩) 0 0) 0 [] (by rfl) (empty_row (t := 34) (by first | exact Blk.fresh rfl | exact (Blk.fresh rfl).drew | exact (Blk.fresh rfl).alloc _ | exact ((Blk.fresh rfl).alloc _).drew) (by omega)) (by rfl) ?_)
        | (refine step_append_none (by rfl) _ _ _ (by rfl) W3.heap.size 34 i0 2 Try.underlying23 HI.out (.slice (some ⟨W3.heap.size + 1, 0, none⟩) 0 0) 0 [] (by rfl) (empty_row (t := 34) (by first | exact Blk.fresh (by simp) | exact (Blk.fresh (by simp)).drew) (by omega)) (by rfl) ?_))
      all_goals (go_wp2_with fail)
      all_goals go_meet
      all_goals
        (case rel =>
          first
          | exact ⟨W3.heap.size + 1, W3.heap.size, 0, rfl, by omega, by omega, by omega, Blk.fresh (by simp), ⟨_, #[], (Blk.fresh rfl).alloc _, fun j hj => absurd hj (by omega)⟩, bdr (bal (bal (Below.refl _ _) _) _)⟩
          | exact ⟨W3.heap.size, W3.heap.size + 1, 0, rfl, by omega, by omega, by omega, (Blk.fresh rfl).alloc _, ⟨_, #[], Blk.fresh (by simp), fun j hj => absurd hj (by omega)⟩, bdr (bal (bal (Below.refl _ _) _) _)⟩)
    · obtain ⟨gs, rfl⟩ : ∃ gs, a = some ⟨gs, 0, none⟩ := by
        rcases ROW3.out.2 with ⟨_, h⟩ | ⟨g, _, _, h, _⟩
        · exact absurd h h0
        · cases h; exact ⟨g, rfl⟩
      have h0' : 0 < len := by omega
      go_region_held3 (fun w' => w'.cell? ⟨w2.heap.size, 0, none⟩ = some (.int .i64 s) ∧ w'.cell? ⟨w2.heap.size, 1, none⟩ = some (.slice (some ⟨gs, 0, none⟩) len cap)) (simp [go_sem, *])
        (first
        | (refine step_append_lies _ (by rfl) _ _ _ (by rfl) W3.heap.size 34 i0 (.agg #[.int .i64 0, .int .i64 0]) 2 16 Try.underlying23 HI.out HZ.out.1 HZ.out.2.1 HZ.out.2.2 rfl (by decide) (.slice (some ⟨W3.heap.size, 0, none⟩) 0 0) 0 [] (by rfl) (empty_row (t := 34) (by first | exact Blk.fresh (by simp) | exact (Blk.fresh (by simp)).drew | exact (Blk.fresh (by simp)).alloc _ | exact ((Blk.fresh (by simp)).alloc _).drew) (by omega)) ⟨gs, 0, none⟩ len cap (encO l) (by rfl) (by rw [encO_length, HLEN.out]) (fun j u h => World.ownsRow.cells (by first | exact (ROW3.out.alloc _).drew | exact ((ROW3.out.alloc _).alloc _).drew | exact ROW3.out.alloc _ | exact (ROW3.out.alloc _).alloc _) rfl j u h) (oneCell_encO l) (by omega) (by unfold maxLen; omega) (by omega) (by (try simp) <;> omega) _ rfl ?_; intro g9 cap9 w9 hown1 hgrow hat hlt; have Q9 : Below W3.heap.size W3 w9 := Below.trans (by first | exact bal (Below.refl _ _) _ | exact bdr (bal (Below.refl _ _) _) | exact bal (bal (Below.refl _ _) _) _ | exact bdr (bal (bal (Below.refl _ _) _) _)) (below_grown (k := W3.heap.size) hgrow (by (try simp) <;> omega) (by omega)); (try (have X9 : Blk w9 (W3.heap.size + 1) 25 #[.int .i64 0, .slice none 0 0] := (hgrow.block _ (by (try simp) <;> omega) (by simp [Value.ownBlock])).trans (by first | exact Blk.fresh (by simp) | exact (Blk.fresh (by simp)).drew | exact (Blk.fresh (by simp)).alloc _ | exact ((Blk.fresh (by simp)).alloc _).drew); have t0 := X9.cell 0; have t1 := X9.cell 1; have t2 := X9.free 0; have t3 := X9.free 1; have t4 := X9.lt; (try simp at t0 t1); have n9 := row_blk_ne hown1 X9 (by decide); replace X9 := Lib.hid X9)); have y9 : Blk w9 w2.heap.size 25 #[.int .i64 s, .slice (some ⟨gs, 0, none⟩) len cap] := (Q9.block _ (by omega)).trans BS3.out; have d0 : w9.cell? ⟨w2.heap.size, 0, none⟩ = some (.int .i64 s) := y9.cell 0; have d1 : w9.cell? ⟨w2.heap.size, 1, none⟩ = some (.slice (some ⟨gs, 0, none⟩) len cap) := y9.cell 1; have y9' := y9.lt; have q9 := Q9.size; replace Q9 := Lib.hid Q9; replace hown1 := Lib.hid hown1; clear y9 hgrow hat)
        | (refine step_append_lies _ (by rfl) _ _ _ (by rfl) W3.heap.size 34 i0 (.agg #[.int .i64 0, .int .i64 0]) 2 16 Try.underlying23 HI.out HZ.out.1 HZ.out.2.1 HZ.out.2.2 rfl (by decide) (.slice (some ⟨W3.heap.size + 1, 0, none⟩) 0 0) 0 [] (by rfl) (empty_row (t := 34) (by first | exact Blk.fresh (by simp) | exact (Blk.fresh (by simp)).drew | exact (Blk.fresh (by simp)).alloc _ | exact ((Blk.fresh (by simp)).alloc _).drew) (by omega)) ⟨gs, 0, none⟩ len cap (encO l) (by rfl) (by rw [encO_length, HLEN.out]) (fun j u h => World.ownsRow.cells (by first | exact (ROW3.out.alloc _).drew | exact ((ROW3.out.alloc _).alloc _).drew | exact ROW3.out.alloc _ | exact (ROW3.out.alloc _).alloc _) rfl j u h) (oneCell_encO l) (by omega) (by unfold maxLen; omega) (by omega) (by (try simp) <;> omega) _ rfl ?_; intro g9 cap9 w9 hown1 hgrow hat hlt; have Q9 : Below W3.heap.size W3 w9 := Below.trans (by first | exact bal (Below.refl _ _) _ | exact bdr (bal (Below.refl _ _) _) | exact bal (bal (Below.refl _ _) _) _ | exact bdr (bal (bal (Below.refl _ _) _) _)) (below_grown (k := W3.heap.size + 1) hgrow (by (try simp) <;> omega) (by omega)); (try (have X9 : Blk w9 (W3.heap.size) 25 #[.int .i64 0, .slice none 0 0] := (hgrow.block _ (by (try simp) <;> omega) (by simp [Value.ownBlock])).trans (by first | exact Blk.fresh (by simp) | exact (Blk.fresh (by simp)).drew | exact (Blk.fresh (by simp)).alloc _ | exact ((Blk.fresh (by simp)).alloc _).drew); have t0 := X9.cell 0; have t1 := X9.cell 1; have t2 := X9.free 0; have t3 := X9.free 1; have t4 := X9.lt; (try simp at t0 t1); have n9 := row_blk_ne hown1 X9 (by decide); replace X9 := Lib.hid X9)); have y9 : Blk w9 w2.heap.size 25 #[.int .i64 s, .slice (some ⟨gs, 0, none⟩) len cap] := (Q9.block _ (by omega)).trans BS3.out; have d0 : w9.cell? ⟨w2.heap.size, 0, none⟩ = some (.int .i64 s) := y9.cell 0; have d1 : w9.cell? ⟨w2.heap.size, 1, none⟩ = some (.slice (some ⟨gs, 0, none⟩) len cap) := y9.cell 1; have y9' := y9.lt; have q9 := Q9.size; replace Q9 := Lib.hid Q9; replace hown1 := Lib.hid hown1; clear y9 hgrow hat))
      all_goals
        have hw9 : w9.ownsRow W3.heap.size 34 2 (.slice (some ⟨g9, 0, none⟩) l.length cap9) l.length (encO l) := by rw [HLEN.out]; simpa using hown1.out
        obtain ⟨hb9, hib⟩ := ib_of_row hw9
        rw [HLEN.out] at hib
        have hg9 := hib.lt
        have IB9 := Lib.hid hib
        clear hw9 hib hown1
        go_wp2_with fail
        go_meet
        case rel =>
          first
          | exact ⟨w9.heap.size, g9, cap9, rfl, by omega, hb9, by omega, Blk.fresh rfl, IB9.out.below ((Below.refl _ _).alloc (Nat.le_refl _) _), bal Q9.out _⟩
          | exact ⟨W3.heap.size + 1, g9, cap9, rfl, by omega, hb9, n9, (X9.out.put 0 _).put 1 _, (IB9.out.far _ _ _ n9.symm).far _ _ _ n9.symm, bst (bst Q9.out _ _ _ (by omega)) _ _ _ (by omega)⟩
          | exact ⟨W3.heap.size, g9, cap9, rfl, by omega, hb9, n9, (X9.out.put 0 _).put 1 _, (IB9.out.far _ _ _ n9.symm).far _ _ _ n9.symm, bst (bst Q9.out _ _ _ (by omega)) _ _ _ (by omega)⟩
  case rest =>
    obtain ⟨g15, g2, cap2, rfl, h15, h2, h152, hX, hI, hB⟩ := hcut
    have zc := hB.size
    have hs3 := Steps1.of_below T3.out hB
    have S4 := Lib.hid hs3; have L4 := Lib.hid (btr L3.out hB); have X4 := Lib.hid hX; have I4 := Lib.hid hI
    have x0 : wc.cell? ⟨g15, 0, none⟩ = some (.int .i64 s) := hX.cell 0; have x1 : wc.cell? ⟨g15, 1, none⟩ = some (.slice (some ⟨g2, 0, none⟩) len cap2) := hX.cell 1; have y15 := hX.lt
    clear hX hI hB hs3 L3 ROW3 c0 c1
    go_upto_if 45 with fail
    go_cut [] (fun wx => ChB s w.heap.size g15 len (w.heap.size + 1 + 1) w W3 wx)
    case first =>
      by_cases h0 : 0 < len
      · have h0' : (0 : Int) < (len : Int) := by omega
        go_wp2_with fail
        refine (one_any _ _ _ S4.out.now (by omega) (by omega)).mono ?_
        rintro e w5 ⟨vb, rfl, hs5⟩
        have S5 := Lib.hid (sts S4.out hs5); have X5 := Lib.hid (X4.out.step hs5 (by omega)); have I5 := Lib.hid (ib_step I4.out hs5 (by omega)); have L5 := Lib.hid (bos L4.out (by omega) hs5)
        have z5 := hs5.size
        clear hs5 S4 L4 X4 I4 x0 x1 y15
        have x1 : w5.cell? ⟨g15, 1, none⟩ = some (.slice (some ⟨g2, 0, none⟩) len cap2) := X5.out.cell 1
        have yg2 := I5.out.lt; have y15 := X5.out.lt
        obtain ⟨zf, hzf, hfr⟩ := ib_flat I5.out
        cases vb
        · go_wp2
          go_region_with (first | (go_at_call 13; with_reducible refine (mod_any at_ _ _ (by omega) (by omega)).mono ?_; rintro e w6 ⟨rfl, rfl⟩; obtain ⟨m, hm⟩ := Int.eq_ofNat_of_zero_le (modI_lo at_ (len : Int) (by omega)); have hm2 := modI_hi at_ (len : Int) (by omega); rw [hm] at hm2; rw [hm]; have hm3 : m < len := (by omega); have hm4 : m * 2 < len * 2 := (by omega); have hm5 : m * 2 + 1 < len * 2 := (by omega); have hm0 : (0 : Int) ≤ (m : Int) := (by omega); have HM := Lib.hid hm; clear hm; have fz := hfr (m * 2) hm4; have fz1 := hfr (m * 2 + 1) hm5) | (go_at_call 13; refine (mod_any by_ _ _ (by omega) (by omega)).mono ?_; rintro e w7 ⟨rfl, rfl⟩; obtain ⟨q, hq⟩ : ∃ q, modI by_ 9 = q := ⟨_, rfl⟩; rw [hq]; clear hq))
          all_goals
            go_wp2_with fail
            go_meet
            case rel => exact ⟨g2, cap2, (X5.out.far _ _ _ h152).drew, (I5.out.put _ _).drew, sdr (sst S5.out _ _ _ h2), bdr (bst L5.out _ _ _ (by omega))⟩
        · go_wp2
          go_region_held3 (fun w' => w'.cell? ⟨g15, 1, none⟩ = some (.slice (some ⟨g2, 0, none⟩) len cap2)) (simp [go_sem, *]) (first | (go_at_call 13; refine (mod_any at_ _ _ (by omega) (by omega)).mono ?_; rintro e w6 ⟨rfl, rfl⟩; obtain ⟨m, hm⟩ := Int.eq_ofNat_of_zero_le (modI_lo at_ (len : Int) (by omega)); have hm2 := modI_hi at_ (len : Int) (by omega); rw [hm] at hm2; rw [hm]; have hm3 : m < len := (by omega); have hm4 : m * 2 < len * 2 := (by omega); have hm5 : m * 2 + 1 < len * 2 := (by omega); have hm0 : (0 : Int) ≤ (m : Int) := (by omega); have HM := Lib.hid hm; clear hm; have fz := hfr (m * 2) hm4; have fz1 := hfr (m * 2 + 1) hm5))
          all_goals
            go_wp2_with fail
            go_meet
            case rel => exact ⟨g2, cap2, (X5.out.far _ _ _ h152).drew, (I5.out.put _ _).drew, sdr (sst S5.out _ _ _ h2), bdr (bst L5.out _ _ _ (by omega))⟩
      · go_wp2
        go_meet
        case rel => exact ⟨g2, cap2, X4.out, I4.out, S4.out, L4.out⟩
    case rest =>
      clear S4 L4 X4 I4 x0 x1 y15 h2 h152 zc
      obtain ⟨g2, cap2, hX, hI, hS5, hL⟩ := hcut
      have zc := hS5.size
      obtain ⟨l2, hl2, hS2⟩ := ser_of_ib hI
      have BS := Lib.hid (BS3.out.step hS5 (by omega)); have BR := Lib.hid (BR3.out.step hS5 (by omega)); have BP := Lib.hid (BP3.out.step hS5 (by omega)); have SN := Lib.hid (SN3.out.step hS5 (by omega)).1; have RS' := Lib.hid (RS.out.below hL); have XX := Lib.hid hX; have LL := Lib.hid hL; have L2 := Lib.hid hl2; have S2 := Lib.hid hS2
      clear hX hI hS5 hL hl2 hS2 BS3 BR3 BP3 SN3 T3 RS
      have b0 : wc.cell? ⟨w2.heap.size, 0, none⟩ = some (.int .i64 s) := BS.out.cell 0; have b1 : wc.cell? ⟨w2.heap.size, 1, none⟩ = some (.slice a len cap) := BS.out.cell 1
      have x0 : wc.cell? ⟨g15, 0, none⟩ = some (.int .i64 s) := XX.out.cell 0; have x1 : wc.cell? ⟨g15, 1, none⟩ = some (.slice (some ⟨g2, 0, none⟩) len cap2) := XX.out.cell 1
      have r0 : wc.cell? ⟨w.heap.size, 0, none⟩ = some (.int .i64 rs) := BR.out.cell 0; have r1 : wc.cell? ⟨w.heap.size, 1, none⟩ = some (.slice ra rlen rcap) := BR.out.cell 1
      have hrl : rlen ≤ 9223372036854775807 := hcap
      go_wp2_with fail
      have GA := Lib.hid (Blk.fresh (w := wc) (g := wc.heap.size) (t := 25) (cs := #[.int .i64 s, .slice a len cap, .int .i64 s, .slice (some ⟨g2, 0, none⟩) len cap2, .int .i64 rs, .slice ra rlen rcap]) rfl)
      have SNa := Lib.hid (SN.out.alloc (.cells #[.int .i64 s, .slice a len cap, .int .i64 s, .slice (some ⟨g2, 0, none⟩) len cap2, .int .i64 rs, .slice ra rlen rcap] 25)); have S2a := Lib.hid (S2.out.alloc (.cells #[.int .i64 s, .slice a len cap, .int .i64 s, .slice (some ⟨g2, 0, none⟩) len cap2, .int .i64 rs, .slice ra rlen rcap] 25)); have RSa := Lib.hid (RS'.out.alloc (.cells #[.int .i64 s, .slice a len cap, .int .i64 s, .slice (some ⟨g2, 0, none⟩) len cap2, .int .i64 rs, .slice ra rlen rcap] 25)); have BPa := Lib.hid (BP.out.alloc (.cells #[.int .i64 s, .slice a len cap, .int .i64 s, .slice (some ⟨g2, 0, none⟩) len cap2, .int .i64 rs, .slice ra rlen rcap] 25)); have La := Lib.hid (bal LL.out (.cells #[.int .i64 s, .slice a len cap, .int .i64 s, .slice (some ⟨g2, 0, none⟩) len cap2, .int .i64 rs, .slice ra rlen rcap] 25))
      have hza : (wc.alloc (.cells #[.int .i64 s, .slice a len cap, .int .i64 s, .slice (some ⟨g2, 0, none⟩) len cap2, .int .i64 rs, .slice ra rlen rcap] 25)).heap.size = wc.heap.size + 1 := by simp
      obtain ⟨WA, hWA⟩ : ∃ W, wc.alloc (.cells #[.int .i64 s, .slice a len cap, .int .i64 s, .slice (some ⟨g2, 0, none⟩) len cap2, .int .i64 rs, .slice ra rlen rcap] 25) = W := ⟨_, rfl⟩
      rw [hWA] at GA SNa S2a RSa BPa La hza ⊢
      have za : wc.heap.size < WA.heap.size := by omega
      clear hWA hza b0 b1 x0 x1 r0 r1 BS BR BP SN S2 RS' XX LL
      go_loopw [75] (fun v wr => ChL WA 3 v wr) (fun v _ => 3 - (intOf v).toNat)
      case atStart => exact ⟨0, rfl, by omega, Below.refl _ _⟩
      case round =>
        obtain ⟨kk, rfl, hk3, hB⟩ := hrel
        have zr := hB.size
        by_cases hlt : kk < 3
        · have hlt' : (kk : Int) < 3 := by omega
          have hx : ∃ (xs : Int) (xa : Option Addr) (xlen xcap : Nat) (xl : List (Int × Int)), WA.cell? ⟨wc.heap.size, kk * 2, none⟩ = some (.int .i64 xs) ∧ WA.cell? ⟨wc.heap.size, kk * 2 + 1, none⟩ = some (.slice xa xlen xcap) ∧ Ser WA xa xl ∧ xl.length = xlen ∧ xlen ≤ 9223372036854775807 := by
            obtain rfl | rfl | rfl : kk = 0 ∨ kk = 1 ∨ kk = 2 := by omega
            · exact ⟨s, a, len, cap, l, GA.out.cell 0, GA.out.cell 1, SNa.out, HLEN.out, by omega⟩
            · exact ⟨s, some ⟨g2, 0, none⟩, len, cap2, l2, GA.out.cell 2, GA.out.cell 3, S2a.out, L2.out, by omega⟩
            · exact ⟨rs, ra, rlen, rcap, rl, GA.out.cell 4, GA.out.cell 5, RSa.out, RL.out, hrl⟩
          obtain ⟨xs, xa, xlen, xcap, xl, q0, q1, hxs, hxl, xcp⟩ := hx
          have e0 := bc1 hB q0; have e1 := bc1 hB q1
          have XS := Lib.hid hxs; have XL := Lib.hid hxl; have LL := Lib.hid hB
          have yga : wc.heap.size < wr.heap.size := by omega
          clear q0 q1 hxs hxl hB
          obtain ⟨gx, hgx⟩ : ∃ g, wr.heap.size = g := ⟨_, rfl⟩
          have BX := Lib.hid (Blk.fresh (w := wr) (g := wr.heap.size) (t := 25) (cs := #[.int .i64 xs, .slice xa xlen xcap]) rfl)
          go_wp2
          rw [hgx] at BX
          have LX := Lib.hid (bal LL.out (.cells #[.int .i64 xs, .slice xa xlen xcap] 25))
          obtain ⟨WX, hWX⟩ : ∃ W, wr.alloc (.cells #[.int .i64 xs, .slice xa xlen xcap] 25) = W := ⟨_, rfl⟩
          rw [hWX] at BX LX ⊢
          replace LL := LX
          have x0 : WX.cell? ⟨gx, 0, none⟩ = some (.int .i64 xs) := BX.out.cell 0; have x1 : WX.cell? ⟨gx, 1, none⟩ = some (.slice xa xlen xcap) := BX.out.cell 1; have yx := BX.out.lt
          clear hWX e0 e1 hgx LX
          go_region_held3 (fun w' => w'.cell? ⟨gx, 0, none⟩ = some (.int .i64 xs) ∧ w'.cell? ⟨gx, 1, none⟩ = some (.slice xa xlen xcap)) (simp [go_sem, *]) (first | (go_at_call 14; refine (pcheck_any xs xa xlen xcap xl _ (by first | exact XS.out.below LL.out | exact (XS.out.below LL.out).drew) XL.out xcp).mono ?_; rintro e w8 ⟨rfl, hb8⟩; have z3 := hb8.size; (try simp at z3); have LL := Lib.hid (show Below WA.heap.size WA _ from (by first | exact btr LL.out hb8 | exact btr (bdr LL.out) hb8 | exact btr (bal LL.out _) hb8 | exact btr (bdr (bal LL.out _)) hb8)); have BX := Lib.hid (show Blk _ gx 25 #[.int .i64 xs, .slice xa xlen xcap] from (by first | exact BX.out.below hb8 | exact BX.out.drew.below hb8 | exact (BX.out.alloc _).below hb8 | exact (BX.out.alloc _).drew.below hb8)); have x0 := BX.out.cell 0; have x1 := BX.out.cell 1; have yx := BX.out.lt; (try simp at x0 x1); clear hb8) | (go_at_call 15; refine (rcheck_any xs xa xlen xcap xl _ (by first | exact XS.out.below LL.out | exact (XS.out.below LL.out).drew) XL.out xcp).mono ?_; rintro e w9 ⟨rfl, hb9⟩; have z3 := hb9.size; (try simp at z3); have LL := Lib.hid (show Below WA.heap.size WA _ from (by first | exact btr LL.out hb9 | exact btr (bdr LL.out) hb9 | exact btr (bal LL.out _) hb9 | exact btr (bdr (bal LL.out _)) hb9)); have BX := Lib.hid (show Blk _ gx 25 #[.int .i64 xs, .slice xa xlen xcap] from (by first | exact BX.out.below hb9 | exact BX.out.drew.below hb9 | exact (BX.out.alloc _).below hb9 | exact (BX.out.alloc _).drew.below hb9)); have x0 := BX.out.cell 0; have x1 := BX.out.cell 1; have yx := BX.out.lt; (try simp at x0 x1); clear hb9))
          all_goals (go_wp2_with fail)
          refine (mod_any day 366 _ (by omega) (by omega)).mono ?_; rintro e w10 ⟨rfl, rfl⟩
          obtain ⟨mm, hmm⟩ : ∃ mm, modI day 366 = mm := ⟨_, rfl⟩
          have mm1 := modI_lo day 366 (by omega); have mm2 := modI_hi day 366 (by omega)
          rw [hmm] at mm1 mm2 ⊢
          clear hmm
          go_wp2_with fail
          have GB := Lib.hid (Blk.fresh (w := w10) (g := w10.heap.size) (t := 3) (cs := #[.int .i64 day, .int .i64 (mm - 1)]) rfl)
          have BXb := Lib.hid (BX.out.alloc (.cells #[.int .i64 day, .int .i64 (mm - 1)] 3)); have LLb := Lib.hid (bal LL.out (.cells #[.int .i64 day, .int .i64 (mm - 1)] 3))
          have hzb : (w10.alloc (.cells #[.int .i64 day, .int .i64 (mm - 1)] 3)).heap.size = w10.heap.size + 1 := by simp
          obtain ⟨WB, hWB⟩ : ∃ W, w10.alloc (.cells #[.int .i64 day, .int .i64 (mm - 1)] 3) = W := ⟨_, rfl⟩
          rw [hWB] at GB BXb LLb hzb ⊢
          have zb : w10.heap.size < WB.heap.size := by omega
          clear hWB hzb x0 x1 yx BX LL z3
          go_loopw [90] (fun v wq => ChL WB 2 v wq) (fun v _ => 2 - (intOf v).toNat)
          case atStart => exact ⟨0, rfl, by omega, Below.refl _ _⟩
          case round =>
            obtain ⟨jj, rfl, hj2, hB2⟩ := hrel
            have zq := hB2.size
            by_cases hlj : jj < 2
            · have hlj' : (jj : Int) < 2 := by omega
              have hd : ∃ d : Int, WB.cell? ⟨w10.heap.size, jj, none⟩ = some (.int .i64 d) := by
                obtain rfl | rfl : jj = 0 ∨ jj = 1 := by omega
                · exact ⟨_, GB.out.cell 0⟩
                · exact ⟨_, GB.out.cell 1⟩
              obtain ⟨d, hd⟩ := hd
              have e0 := bc1 hB2 hd
              have ygb := World.block_lt_of_cell? _ _ e0
              have BX := Lib.hid (BXb.out.below hB2); have LL := Lib.hid (btr LLb.out hB2)
              have x0 := BX.out.cell 0; have x1 := BX.out.cell 1; have yx := BX.out.lt
              (try simp at x0 x1)
              have HB2 := Lib.hid hB2
              clear hB2 hd
              go_wp2_with first | (go_at_call 16; refine (pBounds_any xs xa xlen xcap xl _ (by first | exact XS.out.below LL.out | exact (XS.out.below LL.out).drew) XL.out xcp d).mono ?_; rintro e w11 ⟨rfl, hb11⟩; have HB2 := Lib.hid (btr HB2.out hb11); have z3 := hb11.size; (try simp at z3); have LL := Lib.hid (show Below WA.heap.size WA _ from (by first | exact btr LL.out hb11 | exact btr (bdr LL.out) hb11)); have BX := Lib.hid (show Blk _ gx 25 #[.int .i64 xs, .slice xa xlen xcap] from (by first | exact BX.out.below hb11 | exact BX.out.drew.below hb11)); have x0 := BX.out.cell 0; have x1 := BX.out.cell 1; have yx := BX.out.lt; (try simp at x0 x1); clear hb11) | (go_at_call 17; refine (rBounds_any xs xa xlen xcap xl _ (by first | exact XS.out.below LL.out | exact (XS.out.below LL.out).drew) XL.out xcp d).mono ?_; rintro e w12 ⟨rfl, hb12⟩; have HB2 := Lib.hid (btr HB2.out hb12); have z3 := hb12.size; (try simp at z3); have LL := Lib.hid (show Below WA.heap.size WA _ from (by first | exact btr LL.out hb12 | exact btr (bdr LL.out) hb12)); have BX := Lib.hid (show Blk _ gx 25 #[.int .i64 xs, .slice xa xlen xcap] from (by first | exact BX.out.below hb12 | exact BX.out.drew.below hb12)); have x0 := BX.out.cell 0; have x1 := BX.out.cell 1; have yx := BX.out.lt; (try simp at x0 x1); clear hb12)
              go_roundw
              case rel => exact ⟨jj + 1, by go_num, by omega, HB2.out⟩
              case measure => simp [intOf]; omega
            · have hgj : ¬ (jj : Int) < 2 := by omega
              go_wp2
              go_roundw
              case rel => exact ⟨kk + 1, by go_num, by omega, btr LLb.out hB2⟩
              case measure => simp [intOf]; omega
        · have hge : ¬ (kk : Int) < 3 := by omega
          have BPa := Lib.hid (BPa.out.below hB); have LL := Lib.hid hB
          have p0 := BPa.out.cell 0; have p1 := BPa.out.cell 1; have p2 := BPa.out.cell 2; have p3 := BPa.out.cell 3; have yp := BPa.out.lt
          (try simp at p0 p1 p2 p3)
          clear hB
          go_wp2
          go_region_held3 (fun w' => w'.cell? ⟨w.heap.size + 1, 0, none⟩ = some (.int .i64 k) ∧ w'.cell? ⟨w.heap.size + 1, 1, none⟩ = some (.int .i64 f) ∧ w'.cell? ⟨w.heap.size + 1, 2, none⟩ = some (.int .i64 u) ∧ w'.cell? ⟨w.heap.size + 1, 3, none⟩ = some (.int .i64 v)) (simp [go_sem, *]) (first | (go_at_call 18; refine (pphase_any k f u v _).mono ?_; rintro e w8 ⟨rfl, hb8⟩; have z3 := hb8.size; (try simp at z3); have LL := Lib.hid (show Below WA.heap.size WA _ from (by first | exact btr LL.out hb8 | exact btr (bdr LL.out) hb8)); have BPa := Lib.hid (show Blk _ (w.heap.size + 1) 27 #[.int .i64 k, .int .i64 f, .int .i64 u, .int .i64 v] from (by first | exact BPa.out.below hb8 | exact BPa.out.drew.below hb8)); have p0 := BPa.out.cell 0; have p1 := BPa.out.cell 1; have p2 := BPa.out.cell 2; have p3 := BPa.out.cell 3; have yp := BPa.out.lt; (try simp at p0 p1 p2 p3); clear hb8) | (go_at_call 19; refine (rphase_any k f u v _).mono ?_; rintro e w9 ⟨rfl, hb9⟩; have z3 := hb9.size; (try simp at z3); have LL := Lib.hid (show Below WA.heap.size WA _ from (by first | exact btr LL.out hb9 | exact btr (bdr LL.out) hb9)); have BPa := Lib.hid (show Blk _ (w.heap.size + 1) 27 #[.int .i64 k, .int .i64 f, .int .i64 u, .int .i64 v] from (by first | exact BPa.out.below hb9 | exact BPa.out.drew.below hb9)); have p0 := BPa.out.cell 0; have p1 := BPa.out.cell 1; have p2 := BPa.out.cell 2; have p3 := BPa.out.cell 3; have yp := BPa.out.lt; (try simp at p0 p1 p2 p3); clear hb9) | (go_at_call 9; refine (awake_any _).mono ?_; rintro e w10 ⟨rfl, hb10⟩; have z3 := hb10.size; (try simp at z3); have LL := Lib.hid (show Below WA.heap.size WA _ from (by first | exact btr LL.out hb10 | exact btr (bdr LL.out) hb10)); have BPa := Lib.hid (show Blk _ (w.heap.size + 1) 27 #[.int .i64 k, .int .i64 f, .int .i64 u, .int .i64 v] from (by first | exact BPa.out.below hb10 | exact BPa.out.drew.below hb10)); have p0 := BPa.out.cell 0; have p1 := BPa.out.cell 1; have p2 := BPa.out.cell 2; have p3 := BPa.out.cell 3; have yp := BPa.out.lt; (try simp at p0 p1 p2 p3); clear hb10))
          all_goals go_wp2
          all_goals go_ret
          all_goals exact ⟨rfl, La.out.trans (LL.out.mono La.out.size)⟩
end Go.Proofs.Ytlfcdjgmegfjoaa
