/- What is decided of a phase: the reference's. -/
import Derived.Test.YtlfcdjgmegfjoaaSshow
namespace Go.Proofs.Ytlfcdjgmegfjoaa
open Go.RowKit Go.Shelf
set_option linter.unusedVariables false
set_option linter.unusedSimpArgs false

/-- Behind the two curves: what they show. -/
def RDc (w : World) (s : Int) (l : List (Int × Int)) (k0 f u v : Int) (so al : Value) (wx : World) : Prop :=
  so = .bool (shw (lowB s l) k0 v (dayL f u)) ∧ al = .bool (shw (highB s l) k0 v (dayL f u)) ∧ Below w.heap.size w wx
theorem gB_t (s : Int) (l : List (Int × Int)) : gB s l true = highB s l := by funext x; simp [gB]
theorem gB_f (s : Int) (l : List (Int × Int)) : gB s l false = lowB s l := by funext x; simp [gB]

set_option maxHeartbeats 2000000 in
theorem rDecide_bad (s : Int) (a : Option Addr) (len cap : Nat) (l : List (Int × Int)) (w : World) (hS : Ser w a l) (hl : l.length = len) (hcap : len ≤ 9223372036854775807) (k0 f u v : Int) (c : Int) (hc : chkS s l = c) (h : c ≠ 0) :
    Calls Try.prog 24 #[.agg #[.int .i64 s, .slice a len cap], .agg #[.int .i64 k0, .int .i64 f, .int .i64 u, .int .i64 v]] w fun e w' => e = .returned (.int .i64 0) ∧ Below w.heap.size w w' := by
  have SS := Lib.hid hS
  clear hS
  go_enter Try.func24, Try.ntmps24
  go_wp2_with (go_at_call 15; refine (rcheck_any s a len cap l _ ((SS.out.alloc _).alloc _) hl hcap).mono ?_; rw [hc]; rintro e w1 ⟨rfl, hb1⟩)
  all_goals first | (exfalso; omega) | (go_ret; exact ⟨rfl, by (repeat (with_reducible first | (refine bst ?_ _ _ _ (by omega)) | refine bal ?_ _ | refine bdr ?_ | exact Below.refl _ _ | refine btr ?_ hb1))⟩)

set_option maxHeartbeats 2000000 in
theorem rDecide_ph (s : Int) (a : Option Addr) (len cap : Nat) (l : List (Int × Int)) (w : World) (hS : Ser w a l) (hl : l.length = len) (hcap : len ≤ 9223372036854775807) (k0 f u v : Int) (c : Int) (hc : chkS s l = 0) (hp : phE k0 f u v = c) (h : c ≠ 0) :
    Calls Try.prog 24 #[.agg #[.int .i64 s, .slice a len cap], .agg #[.int .i64 k0, .int .i64 f, .int .i64 u, .int .i64 v]] w fun e w' => e = .returned (.int .i64 0) ∧ Below w.heap.size w w' := by
  have SS := Lib.hid hS; have HC := Lib.hid hc; have HL := Lib.hid hl; have HP := Lib.hid hp
  clear hS hl hc hp
  go_enter Try.func24, Try.ntmps24
  go_wp2_with first | (go_at_call 15; refine (rcheck_any s a len cap l _ ((SS.out.alloc _).alloc _) HL.out hcap).mono ?_; rw [HC.out]; rintro e w1 ⟨rfl, hb1⟩; have z1 := hb1.size; (try simp at z1); have BX := Blk.below (Blk.alloc (Blk.fresh rfl) _) hb1 (g := w.heap.size) (t := 25) (cs := #[.int .i64 s, .slice a len cap]); have BP := Blk.below (Blk.fresh (by simp)) hb1 (g := w.heap.size + 1) (t := 27) (cs := #[.int .i64 k0, .int .i64 f, .int .i64 u, .int .i64 v]); have x0 := BX.cell 0; have x1 := BX.cell 1; have q0 := BP.cell 0; have q1 := BP.cell 1; have q2 := BP.cell 2; have q3 := BP.cell 3; have yx := BX.lt; have yp := BP.lt; (try simp at x0 x1 q0 q1 q2 q3); have SS := Lib.hid (((SS.out.alloc _).alloc _).below hb1); have LL := Lib.hid (btr (bal (bal (Below.refl _ _) _) _) hb1); clear hb1; replace BX := Lib.hid BX; replace BP := Lib.hid BP) | (go_at_call 19; refine (rphase_any k0 f u v _).mono ?_; rw [HP.out]; rintro e w2 ⟨rfl, hb2⟩; have z3 := hb2.size; (try simp at z3); have SS := Lib.hid (show Ser _ a l from (by first | exact SS.out.below hb2 | exact SS.out.drew.below hb2)); have LL := Lib.hid (show Below w.heap.size w _ from (by first | exact btr LL.out hb2 | exact btr (bdr LL.out) hb2)); have BX := Lib.hid (show Blk _ w.heap.size 25 #[.int .i64 s, .slice a len cap] from (by first | exact BX.out.below hb2 | exact BX.out.drew.below hb2)); have BP := Lib.hid (show Blk _ (w.heap.size + 1) 27 #[.int .i64 k0, .int .i64 f, .int .i64 u, .int .i64 v] from (by first | exact BP.out.below hb2 | exact BP.out.drew.below hb2)); have x0 := BX.out.cell 0; have x1 := BX.out.cell 1; have q0 := BP.out.cell 0; have q1 := BP.out.cell 1; have q2 := BP.out.cell 2; have q3 := BP.out.cell 3; have yx := BX.out.lt; have yp := BP.out.lt; (try simp at x0 x1 q0 q1 q2 q3); clear hb2)
  all_goals first | (exfalso; omega) | (go_ret; exact ⟨rfl, LL.out⟩)

set_option maxRecDepth 100000 in
set_option maxHeartbeats 4000000 in
theorem rDecide_ok (s : Int) (a : Option Addr) (len cap : Nat) (l : List (Int × Int)) (w : World) (hS : Ser w a l) (hl : l.length = len) (hcap : len ≤ 9223372036854775807) (k0 f u v : Int) (hc : chkS s l = 0) (hp : phE k0 f u v = 0) :
    Calls Try.prog 24 #[.agg #[.int .i64 s, .slice a len cap], .agg #[.int .i64 k0, .int .i64 f, .int .i64 u, .int .i64 v]] w fun e w' => e = .returned (.int .i64 (decR s l k0 f u v)) ∧ Below w.heap.size w w' := by
  have SS := Lib.hid hS; have HC := Lib.hid hc; have HL := Lib.hid hl; have HP := Lib.hid hp
  clear hS hl hc hp
  go_enter Try.func24, Try.ntmps24
  go_wp2_with first | (go_at_call 15; refine (rcheck_any s a len cap l _ ((SS.out.alloc _).alloc _) HL.out hcap).mono ?_; rw [HC.out]; rintro e w1 ⟨rfl, hb1⟩; have z1 := hb1.size; (try simp at z1); have BX := Blk.below (Blk.alloc (Blk.fresh rfl) _) hb1 (g := w.heap.size) (t := 25) (cs := #[.int .i64 s, .slice a len cap]); have BP := Blk.below (Blk.fresh (by simp)) hb1 (g := w.heap.size + 1) (t := 27) (cs := #[.int .i64 k0, .int .i64 f, .int .i64 u, .int .i64 v]); have x0 := BX.cell 0; have x1 := BX.cell 1; have q0 := BP.cell 0; have q1 := BP.cell 1; have q2 := BP.cell 2; have q3 := BP.cell 3; have yx := BX.lt; have yp := BP.lt; (try simp at x0 x1 q0 q1 q2 q3); have SS := Lib.hid (((SS.out.alloc _).alloc _).below hb1); have LL := Lib.hid (btr (bal (bal (Below.refl _ _) _) _) hb1); clear hb1; replace BX := Lib.hid BX; replace BP := Lib.hid BP) | (go_at_call 19; refine (rphase_any k0 f u v _).mono ?_; rw [HP.out]; rintro e w2 ⟨rfl, hb2⟩; have z3 := hb2.size; (try simp at z3); have SS := Lib.hid (show Ser _ a l from (by first | exact SS.out.below hb2 | exact SS.out.drew.below hb2)); have LL := Lib.hid (show Below w.heap.size w _ from (by first | exact btr LL.out hb2 | exact btr (bdr LL.out) hb2)); have BX := Lib.hid (show Blk _ w.heap.size 25 #[.int .i64 s, .slice a len cap] from (by first | exact BX.out.below hb2 | exact BX.out.drew.below hb2)); have BP := Lib.hid (show Blk _ (w.heap.size + 1) 27 #[.int .i64 k0, .int .i64 f, .int .i64 u, .int .i64 v] from (by first | exact BP.out.below hb2 | exact BP.out.drew.below hb2)); have x0 := BX.out.cell 0; have x1 := BX.out.cell 1; have q0 := BP.out.cell 0; have q1 := BP.out.cell 1; have q2 := BP.out.cell 2; have q3 := BP.out.cell 3; have yx := BX.out.lt; have yp := BP.out.lt; (try simp at x0 x1 q0 q1 q2 q3); clear hb2)
  go_upto_region 3 with fail
  go_cut [5, 6] (fun so al wx => RDc w s l k0 f u v so al wx)
  case first =>
    go_region_held3 (fun w' => w'.cell? ⟨w.heap.size, 0, none⟩ = some (.int .i64 s) ∧ w'.cell? ⟨w.heap.size, 1, none⟩ = some (.slice a len cap) ∧ w'.cell? ⟨w.heap.size + 1, 0, none⟩ = some (.int .i64 k0) ∧ w'.cell? ⟨w.heap.size + 1, 1, none⟩ = some (.int .i64 f) ∧ w'.cell? ⟨w.heap.size + 1, 2, none⟩ = some (.int .i64 u) ∧ w'.cell? ⟨w.heap.size + 1, 3, none⟩ = some (.int .i64 v)) (simp [go_sem, *]) (first | (go_at_call 39; refine (rshows_any s a len cap l _ (by first | exact SS.out | exact SS.out.drew) HL.out hcap k0 f u v HC.out HP.out _).mono ?_; rintro e w3 ⟨rfl, hb3⟩; have z3 := hb3.size; (try simp at z3); have SS := Lib.hid (show Ser _ a l from (by first | exact SS.out.below hb3 | exact SS.out.drew.below hb3)); have LL := Lib.hid (show Below w.heap.size w _ from (by first | exact btr LL.out hb3 | exact btr (bdr LL.out) hb3)); have BX := Lib.hid (show Blk _ w.heap.size 25 #[.int .i64 s, .slice a len cap] from (by first | exact BX.out.below hb3 | exact BX.out.drew.below hb3)); have BP := Lib.hid (show Blk _ (w.heap.size + 1) 27 #[.int .i64 k0, .int .i64 f, .int .i64 u, .int .i64 v] from (by first | exact BP.out.below hb3 | exact BP.out.drew.below hb3)); have x0 := BX.out.cell 0; have x1 := BX.out.cell 1; have q0 := BP.out.cell 0; have q1 := BP.out.cell 1; have q2 := BP.out.cell 2; have q3 := BP.out.cell 3; have yx := BX.out.lt; have yp := BP.out.lt; (try simp at x0 x1 q0 q1 q2 q3); clear hb3))
    all_goals (go_wp2_with fail)
    all_goals go_meet
    all_goals
      (case rel => exact ⟨by rw [gB_f], by rw [gB_t], LL.out⟩)
  case rest =>
    obtain ⟨rfl, rfl, hB⟩ := hcut
    have HB := Lib.hid hB
    clear hB
    have HD : RowKit.Hid (decR s l k0 f u v = if shw (lowB s l) k0 v (dayL f u) && shw (highB s l) k0 v (dayL f u) then 1 else if !shw (lowB s l) k0 v (dayL f u) && !shw (highB s l) k0 v (dayL f u) then -1 else 0) := Lib.hid rfl
    generalize shw (lowB s l) k0 v (dayL f u) = A at HD ⊢
    generalize shw (highB s l) k0 v (dayL f u) = B at HD ⊢
    cases A <;> cases B
    all_goals
      go_wp2
      go_ret
      exact ⟨ret_int (by rw [HD.out]; rfl), HB.out⟩

theorem rDecide_any (s : Int) (a : Option Addr) (len cap : Nat) (l : List (Int × Int)) (w : World) (hS : Ser w a l) (hl : l.length = len) (hcap : len ≤ 9223372036854775807) (k0 f u v : Int) :
    Calls Try.prog 24 #[.agg #[.int .i64 s, .slice a len cap], .agg #[.int .i64 k0, .int .i64 f, .int .i64 u, .int .i64 v]] w fun e w' => e = .returned (.int .i64 (decRAny s l k0 f u v)) ∧ Below w.heap.size w w' := by
  unfold decRAny
  by_cases hc : chkS s l = 0
  · rw [if_pos hc]
    by_cases hp : phE k0 f u v = 0
    · rw [if_pos hp]; exact rDecide_ok s a len cap l w hS hl hcap k0 f u v hc hp
    · rw [if_neg hp]; exact rDecide_ph s a len cap l w hS hl hcap k0 f u v _ hc rfl hp
  · rw [if_neg hc]; exact rDecide_bad s a len cap l w hS hl hcap k0 f u v _ rfl hc
end Go.Proofs.Ytlfcdjgmegfjoaa
