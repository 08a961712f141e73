/- On which days a phase is open: the reference's Open. -/
import Derived.Test.YtlfcdjgmegfjoaaSrdec
namespace Go.Proofs.Ytlfcdjgmegfjoaa
open Go.RowKit Go.Shelf
set_option linter.unusedVariables false
set_option linter.unusedSimpArgs false

structure ROp (w : World) (s : Int) (a : Option Addr) (len cap : Nat) (l : List (Int × Int)) (k0 f u v : Int) (o d : Value) (wr : World) : Prop where
  ex : ∃ k : Nat, k ≤ (u + 1 - f).toNat ∧ d = .int .i64 (f + k) ∧ wr.ownsRow (w.heap.size + 2) 3 1 o (opn s l v (upto (fun j : Nat => f + (j : Int)) k)).length ((opn s l v (upto (fun j : Nat => f + (j : Int)) k)).map (Value.int .i64))
  below : Below w.heap.size w wr
  box : Blk wr w.heap.size 25 #[.int .i64 s, .slice a len cap]
  boxp : Blk wr (w.heap.size + 1) 27 #[.int .i64 k0, .int .i64 f, .int .i64 u, .int .i64 v]

theorem own_below {w w' : World} {B e size n : Nat} {v : Value} {xs : List Value} (h : w.ownsRow B e size v n xs) (hb : Below w.heap.size w w') : w'.ownsRow B e size v n xs := by
  refine ⟨h.1, ?_⟩
  rcases h.2 with h | ⟨g, cap, cur, h1, h2, h3, h4⟩
  · exact .inl h
  · exact .inr ⟨g, cap, cur, h1, h2, (hb.block g (lt_of_block h3)).trans h3, h4⟩
/-- An append onto a row of the call's own leaves what lies below the row's floor. -/
theorem row_app {W w1 : World} {n e size k : Nat} {v : Value} {xs : List Value} {tmp : Obj} (hrow : W.ownsRow n e size v k xs) (hn : n ≤ W.heap.size) (hg : (W.alloc tmp).grownBy w1 v.ownBlock) : Below n W w1 :=
  ((Below.refl n W).alloc hn tmp).grown hg (by simp; omega) fun j ej => (hrow.lt j ej).1

set_option maxHeartbeats 2000000 in
theorem rOpen_bad (s : Int) (a : Option Addr) (len cap : Nat) (l : List (Int × Int)) (w : World) (hS : Ser w a l) (hl : l.length = len) (hcap : len ≤ 9223372036854775807) (k0 f u v : Int) (c : Int) (hc : chkS s l = c) (h : c ≠ 0) :
    Calls Try.prog 22 #[.agg #[.int .i64 s, .slice a len cap], .agg #[.int .i64 k0, .int .i64 f, .int .i64 u, .int .i64 v]] w (RowPost [] w) := by
  have SS := Lib.hid hS
  clear hS
  go_enter Try.func22, Try.ntmps22
  go_wp2_with (go_at_call 15; refine (rcheck_any s a len cap l _ ((SS.out.alloc _).alloc _) hl hcap).mono ?_; rw [hc]; rintro e w1 ⟨rfl, hb1⟩)
  all_goals first | (exfalso; omega) | (go_ret; exact ⟨_, rfl, World.ownsRow_nil _ _ _ _, by (repeat (with_reducible first | (refine bst ?_ _ _ _ (by omega)) | refine bal ?_ _ | refine bdr ?_ | exact Below.refl _ _ | refine btr ?_ hb1))⟩)

set_option maxHeartbeats 2000000 in
theorem rOpen_ph (s : Int) (a : Option Addr) (len cap : Nat) (l : List (Int × Int)) (w : World) (hS : Ser w a l) (hl : l.length = len) (hcap : len ≤ 9223372036854775807) (k0 f u v : Int) (c : Int) (hc : chkS s l = 0) (hp : phE k0 f u v = c) (h : c ≠ 0) :
    Calls Try.prog 22 #[.agg #[.int .i64 s, .slice a len cap], .agg #[.int .i64 k0, .int .i64 f, .int .i64 u, .int .i64 v]] w (RowPost [] w) := by
  have SS := Lib.hid hS; have HC := Lib.hid hc; have HL := Lib.hid hl; have HP := Lib.hid hp
  clear hS hl hc hp
  go_enter Try.func22, Try.ntmps22
  go_wp2_with first | (go_at_call 15; refine (rcheck_any s a len cap l _ ((SS.out.alloc _).alloc _) HL.out hcap).mono ?_; rw [HC.out]; rintro e w1 ⟨rfl, hb1⟩; have z1 := hb1.size; (try simp at z1); have BX := Blk.below (Blk.alloc (Blk.fresh rfl) _) hb1 (g := w.heap.size) (t := 25) (cs := #[.int .i64 s, .slice a len cap]); have BP := Blk.below (Blk.fresh (by simp)) hb1 (g := w.heap.size + 1) (t := 27) (cs := #[.int .i64 k0, .int .i64 f, .int .i64 u, .int .i64 v]); have x0 := BX.cell 0; have x1 := BX.cell 1; have q0 := BP.cell 0; have q1 := BP.cell 1; have q2 := BP.cell 2; have q3 := BP.cell 3; have yx := BX.lt; have yp := BP.lt; (try simp at x0 x1 q0 q1 q2 q3); have SS := Lib.hid (((SS.out.alloc _).alloc _).below hb1); have LL := Lib.hid (btr (bal (bal (Below.refl _ _) _) _) hb1); clear hb1; replace BX := Lib.hid BX; replace BP := Lib.hid BP) | (go_at_call 19; refine (rphase_any k0 f u v _).mono ?_; rw [HP.out]; rintro e w2 ⟨rfl, hb2⟩; have z3 := hb2.size; (try simp at z3); have SS := Lib.hid (show Ser _ a l from (by first | exact SS.out.below hb2 | exact SS.out.drew.below hb2)); have LL := Lib.hid (show Below w.heap.size w _ from (by first | exact btr LL.out hb2 | exact btr (bdr LL.out) hb2)); have BX := Lib.hid (show Blk _ w.heap.size 25 #[.int .i64 s, .slice a len cap] from (by first | exact BX.out.below hb2 | exact BX.out.drew.below hb2)); have BP := Lib.hid (show Blk _ (w.heap.size + 1) 27 #[.int .i64 k0, .int .i64 f, .int .i64 u, .int .i64 v] from (by first | exact BP.out.below hb2 | exact BP.out.drew.below hb2)); have x0 := BX.out.cell 0; have x1 := BX.out.cell 1; have q0 := BP.out.cell 0; have q1 := BP.out.cell 1; have q2 := BP.out.cell 2; have q3 := BP.out.cell 3; have yx := BX.out.lt; have yp := BP.out.lt; (try simp at x0 x1 q0 q1 q2 q3); clear hb2)
  all_goals first | (exfalso; omega) | (go_ret; exact ⟨_, rfl, World.ownsRow_nil _ _ _ _, LL.out⟩)

set_option maxRecDepth 100000 in
set_option maxHeartbeats 4000000 in
theorem rOpen_ok (s : Int) (a : Option Addr) (len cap : Nat) (l : List (Int × Int)) (w : World) (hS : Ser w a l) (hl : l.length = len) (hcap : len ≤ 9223372036854775807) (k0 f u v : Int) (hc : chkS s l = 0) (hp : phE k0 f u v = 0) :
    Calls Try.prog 22 #[.agg #[.int .i64 s, .slice a len cap], .agg #[.int .i64 k0, .int .i64 f, .int .i64 u, .int .i64 v]] w (RowPost (opn s l v (dayL f u)) w) := by
  obtain ⟨i0, hi, hz0, hz1, hz2⟩ := info_parts Try.info3
  have HI := Lib.hid hi
  have HZ := Lib.hid (And.intro hz0 (And.intro hz1 hz2))
  clear hi hz0 hz1 hz2
  obtain ⟨hk1, hk4, hf0, hfu, hu, hv⟩ := phE_ok hp
  have hu1 := hu.1; have hu2 := hu.2; have hv1 := hv.1; have hv2 := hv.2
  have SS := Lib.hid hS; have S0 := Lib.hid hS; have HC := Lib.hid hc; have HL := Lib.hid hl; have HP := Lib.hid hp
  clear hS hl hc hp hu hv
  go_enter Try.func22, Try.ntmps22
  go_wp2_with first | (go_at_call 15; refine (rcheck_any s a len cap l _ ((SS.out.alloc _).alloc _) HL.out hcap).mono ?_; rw [HC.out]; rintro e w1 ⟨rfl, hb1⟩; have z1 := hb1.size; (try simp at z1); have BX := Blk.below (Blk.alloc (Blk.fresh rfl) _) hb1 (g := w.heap.size) (t := 25) (cs := #[.int .i64 s, .slice a len cap]); have BP := Blk.below (Blk.fresh (by simp)) hb1 (g := w.heap.size + 1) (t := 27) (cs := #[.int .i64 k0, .int .i64 f, .int .i64 u, .int .i64 v]); have x0 := BX.cell 0; have x1 := BX.cell 1; have q0 := BP.cell 0; have q1 := BP.cell 1; have q2 := BP.cell 2; have q3 := BP.cell 3; have yx := BX.lt; have yp := BP.lt; (try simp at x0 x1 q0 q1 q2 q3); have SS := Lib.hid (((SS.out.alloc _).alloc _).below hb1); have LL := Lib.hid (btr (bal (bal (Below.refl _ _) _) _) hb1); clear hb1; replace BX := Lib.hid BX; replace BP := Lib.hid BP) | (go_at_call 19; refine (rphase_any k0 f u v _).mono ?_; rw [HP.out]; rintro e w2 ⟨rfl, hb2⟩; have z3 := hb2.size; (try simp at z3); have SS := Lib.hid (show Ser _ a l from (by first | exact SS.out.below hb2 | exact SS.out.drew.below hb2)); have LL := Lib.hid (show Below w.heap.size w _ from (by first | exact btr LL.out hb2 | exact btr (bdr LL.out) hb2)); have BX := Lib.hid (show Blk _ w.heap.size 25 #[.int .i64 s, .slice a len cap] from (by first | exact BX.out.below hb2 | exact BX.out.drew.below hb2)); have BP := Lib.hid (show Blk _ (w.heap.size + 1) 27 #[.int .i64 k0, .int .i64 f, .int .i64 u, .int .i64 v] from (by first | exact BP.out.below hb2 | exact BP.out.drew.below hb2)); have x0 := BX.out.cell 0; have x1 := BX.out.cell 1; have q0 := BP.out.cell 0; have q1 := BP.out.cell 1; have q2 := BP.out.cell 2; have q3 := BP.out.cell 3; have yx := BX.out.lt; have yp := BP.out.lt; (try simp at x0 x1 q0 q1 q2 q3); clear hb2)
  go_loopw [5, 6] (fun o d wr => ROp w s a len cap l k0 f u v o d wr) (fun _ d _ => (u + 1 - intOf d).toNat)
  case atStart => exact ⟨⟨0, by omega, by simp, by simpa [opn, upto] using World.ownsRow_nil _ _ _ _⟩, LL.out, BX.out, BP.out⟩
  case round =>
    clear x0 x1 q0 q1 q2 q3 yx yp LL SS BX BP
    obtain ⟨⟨k, hk, rfl, hR⟩, hB, hX, hP⟩ := hrel
    have BX := Lib.hid hX; have BP := Lib.hid hP; have SS := Lib.hid (S0.out.below hB); have LL := Lib.hid hB; have HR := Lib.hid hR
    have hz := hB.size
    clear hR hB hX hP
    have x0 := BX.out.cell 0; have x1 := BX.out.cell 1; have q0 := BP.out.cell 0; have q1 := BP.out.cell 1; have q2 := BP.out.cell 2; have q3 := BP.out.cell 3; have yx := BX.out.lt; have yp := BP.out.lt; (try simp at x0 x1 q0 q1 q2 q3)
    by_cases hlt : f + (k : Int) ≤ u
    · have HD : RowKit.Hid (dayOK (f + (k : Int))) := Lib.hid ⟨by omega, by omega⟩
      have hpl : (opn s l v (upto (fun j : Nat => f + (j : Int)) k)).length ≤ k := by have := List.length_filter_le (fun d => decide (isOpen s l v d)) (upto (fun j : Nat => f + (j : Int)) k); rw [upto_length] at this; exact this
      by_cases o1 : lowB s l (f + k) < v
      · by_cases o2 : v ≤ highB s l (f + k)
        · have HO : RowKit.Hid (opn s l v (upto (fun j : Nat => f + (j : Int)) (k + 1)) = opn s l v (upto (fun j : Nat => f + (j : Int)) k) ++ [f + (k : Int)]) := by rw [upto_succ]; exact opn_hit _ ⟨o1, o2⟩
          go_wp2_with first | (go_at_call 36; refine (rbounds_any s a len cap l _ SS.out HL.out HC.out (f + k) HD.out).mono ?_; rintro e w3 ⟨rfl, hb3⟩; have HR := Lib.hid (own_below HR.out hb3); have z3 := hb3.size; (try simp at z3); have SS := Lib.hid (show Ser _ a l from (by first | exact SS.out.below hb3 | exact SS.out.drew.below hb3)); have LL := Lib.hid (show Below w.heap.size w _ from (by first | exact btr LL.out hb3 | exact btr (bdr LL.out) hb3)); have BX := Lib.hid (show Blk _ w.heap.size 25 #[.int .i64 s, .slice a len cap] from (by first | exact BX.out.below hb3 | exact BX.out.drew.below hb3)); have BP := Lib.hid (show Blk _ (w.heap.size + 1) 27 #[.int .i64 k0, .int .i64 f, .int .i64 u, .int .i64 v] from (by first | exact BP.out.below hb3 | exact BP.out.drew.below hb3)); have x0 := BX.out.cell 0; have x1 := BX.out.cell 1; have q0 := BP.out.cell 0; have q1 := BP.out.cell 1; have q2 := BP.out.cell 2; have q3 := BP.out.cell 3; have yx := BX.out.lt; have yp := BP.out.lt; (try simp at x0 x1 q0 q1 q2 q3); clear hb3) | (at_builtin; refine wpList_append_own _ rfl _ _ 22 rfl (w.heap.size + 2) 3 i0 (.int .i64 0) 1 8 Try.underlying22 HI.out HZ.out.1 HZ.out.2.1 HZ.out.2.2 rfl (by decide) _ _ _ rfl (HR.out.alloc _) ⟨w3.heap.size, 0, none⟩ 1 1 [.int .i64 (f + k)] rfl rfl (cell_one_new _ _ _) (by simp [Value.oneCell']) (by unfold maxLen; omega) (by omega) (by simp; omega) ?_; intro v2 w9 hown' hgrow _)
          have hq := row_app HR.out (by omega) hgrow
          have LL9 := LL.out.trans (hq.mono (by omega))
          have BX9 : Blk w9 w.heap.size 25 #[.int .i64 s, .slice a len cap] := (hq.block _ (by omega)).trans BX.out
          have BP9 : Blk w9 (w.heap.size + 1) 27 #[.int .i64 k0, .int .i64 f, .int .i64 u, .int .i64 v] := (hq.block _ (by omega)).trans BP.out
          have HW := Lib.hid hown'; have L9 := Lib.hid LL9; have X9 := Lib.hid BX9; have P9 := Lib.hid BP9
          clear hown' LL9 BX9 BP9 hq hgrow
          go_wp2
          go_roundw
          case rel => exact ⟨⟨k + 1, by omega, by congr 1; omega, by rw [HO.out]; simpa using HW.out⟩, L9.out, X9.out, P9.out⟩
          case measure => simp [intOf]; omega
        · have HO : RowKit.Hid (opn s l v (upto (fun j : Nat => f + (j : Int)) (k + 1)) = opn s l v (upto (fun j : Nat => f + (j : Int)) k)) := by rw [upto_succ]; exact opn_miss _ (fun h => o2 h.2)
          go_wp2_with (go_at_call 36; refine (rbounds_any s a len cap l _ SS.out HL.out HC.out (f + k) HD.out).mono ?_; rintro e w3 ⟨rfl, hb3⟩; have HR := Lib.hid (own_below HR.out hb3); have z3 := hb3.size; (try simp at z3); have SS := Lib.hid (show Ser _ a l from (by first | exact SS.out.below hb3 | exact SS.out.drew.below hb3)); have LL := Lib.hid (show Below w.heap.size w _ from (by first | exact btr LL.out hb3 | exact btr (bdr LL.out) hb3)); have BX := Lib.hid (show Blk _ w.heap.size 25 #[.int .i64 s, .slice a len cap] from (by first | exact BX.out.below hb3 | exact BX.out.drew.below hb3)); have BP := Lib.hid (show Blk _ (w.heap.size + 1) 27 #[.int .i64 k0, .int .i64 f, .int .i64 u, .int .i64 v] from (by first | exact BP.out.below hb3 | exact BP.out.drew.below hb3)); have x0 := BX.out.cell 0; have x1 := BX.out.cell 1; have q0 := BP.out.cell 0; have q1 := BP.out.cell 1; have q2 := BP.out.cell 2; have q3 := BP.out.cell 3; have yx := BX.out.lt; have yp := BP.out.lt; (try simp at x0 x1 q0 q1 q2 q3); clear hb3)
          go_roundw
          case rel => exact ⟨⟨k + 1, by omega, by congr 1; omega, by rw [HO.out]; exact HR.out⟩, LL.out, BX.out, BP.out⟩
          case measure => simp [intOf]; omega
      · have HO : RowKit.Hid (opn s l v (upto (fun j : Nat => f + (j : Int)) (k + 1)) = opn s l v (upto (fun j : Nat => f + (j : Int)) k)) := by rw [upto_succ]; exact opn_miss _ (fun h => o1 h.1)
        go_wp2_with (go_at_call 36; refine (rbounds_any s a len cap l _ SS.out HL.out HC.out (f + k) HD.out).mono ?_; rintro e w3 ⟨rfl, hb3⟩; have HR := Lib.hid (own_below HR.out hb3); have z3 := hb3.size; (try simp at z3); have SS := Lib.hid (show Ser _ a l from (by first | exact SS.out.below hb3 | exact SS.out.drew.below hb3)); have LL := Lib.hid (show Below w.heap.size w _ from (by first | exact btr LL.out hb3 | exact btr (bdr LL.out) hb3)); have BX := Lib.hid (show Blk _ w.heap.size 25 #[.int .i64 s, .slice a len cap] from (by first | exact BX.out.below hb3 | exact BX.out.drew.below hb3)); have BP := Lib.hid (show Blk _ (w.heap.size + 1) 27 #[.int .i64 k0, .int .i64 f, .int .i64 u, .int .i64 v] from (by first | exact BP.out.below hb3 | exact BP.out.drew.below hb3)); have x0 := BX.out.cell 0; have x1 := BX.out.cell 1; have q0 := BP.out.cell 0; have q1 := BP.out.cell 1; have q2 := BP.out.cell 2; have q3 := BP.out.cell 3; have yx := BX.out.lt; have yp := BP.out.lt; (try simp at x0 x1 q0 q1 q2 q3); clear hb3)
        go_roundw
        case rel => exact ⟨⟨k + 1, by omega, by congr 1; omega, by rw [HO.out]; exact HR.out⟩, LL.out, BX.out, BP.out⟩
        case measure => simp [intOf]; omega
    · have hkk : k = (u + 1 - f).toNat := by omega
      have hdl : RowKit.Hid ((upto (fun j : Nat => f + (j : Int)) k) = dayL f u) := by rw [hkk]; exact Lib.hid rfl
      clear hkk
      go_wp2
      go_ret
      exact ⟨_, rfl, by rw [← hdl.out]; exact ownsRow_base HR.out (by omega), LL.out⟩

theorem rOpen_any (s : Int) (a : Option Addr) (len cap : Nat) (l : List (Int × Int)) (w : World) (hS : Ser w a l) (hl : l.length = len) (hcap : len ≤ 9223372036854775807) (k0 f u v : Int) :
    Calls Try.prog 22 #[.agg #[.int .i64 s, .slice a len cap], .agg #[.int .i64 k0, .int .i64 f, .int .i64 u, .int .i64 v]] w (RowPost (openAny s l k0 f u v) w) := by
  unfold openAny
  by_cases hc : chkS s l = 0
  · rw [if_pos hc]
    by_cases hp : phE k0 f u v = 0
    · rw [if_pos hp]; exact rOpen_ok s a len cap l w hS hl hcap k0 f u v hc hp
    · rw [if_neg hp]; exact rOpen_ph s a len cap l w hS hl hcap k0 f u v _ hc rfl hp
  · rw [if_neg hc]; exact rOpen_bad s a len cap l w hS hl hcap k0 f u v _ rfl hc
end Go.Proofs.Ytlfcdjgmegfjoaa
