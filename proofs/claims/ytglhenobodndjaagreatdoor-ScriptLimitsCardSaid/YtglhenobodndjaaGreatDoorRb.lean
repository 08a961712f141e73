/- The reference's regions: leaves: which square is in, which is kept, rows compared, sizes. -/
import Derived.Test.YtglhenobodndjaaGreatDoorView
import Derived.Laws.StructEq
namespace Go.Proofs.YtglhenobodndjaaGreatDoor
open Go.RowKit Go.Sort
set_option linter.unusedVariables false
set_option linter.unusedSimpArgs false

def inq (q : Rc) (x y : Int) : Prop := q.1 ≤ x ∧ x < q.2.2.1 ∧ q.2.1 ≤ y ∧ y < q.2.2.2
instance (q : Rc) (x y : Int) : Decidable (inq q x y) := by unfold inq; infer_instance
def insB (l : List Rc) (x y : Int) : Bool := l.any fun q => decide (inq q x y)
theorem insB_iff (l : List Rc) (x y : Int) : insB l x y = true ↔ inRc l x y := by
  unfold insB inRc inq
  rw [List.any_eq_true]
  constructor
  · rintro ⟨q, hq, h⟩; exact ⟨q, hq, by have := of_decide_eq_true h; exact this⟩
  · rintro ⟨q, hq, h⟩; exact ⟨q, hq, decide_eq_true h⟩
theorem insB_no {l : List Rc} {x y : Int} (h : ∀ j (hj : j < l.length), ¬ inq l[j] x y) : insB l x y = false := by
  unfold insB
  rw [List.any_eq_false]
  intro q hq
  obtain ⟨j, hj, rfl⟩ := List.getElem_of_mem hq
  simpa using h j hj
theorem insB_yes {l : List Rc} {x y : Int} (j : Nat) (hj : j < l.length) (h : inq l[j] x y) : insB l x y = true := by
  unfold insB
  rw [List.any_eq_true]
  exact ⟨l[j], List.getElem_mem hj, by simpa using h⟩
/-- A loop that only looks: i rounds are done. -/
def LookI (w : World) (n : Nat) (P : Nat → Prop) (i : Value) (wr : World) : Prop := ∃ k : Nat, k ≤ n ∧ i = .int .i64 k ∧ Below w.heap.size w wr ∧ P k
set_option maxHeartbeats 1000000 in
theorem inside_any (a : Option Addr) (n cap : Nat) (l : List Rc) (x y : Int) (w : World) (hV : Vw w a (rcCells l)) (hn : l.length = n) (hc : n ≤ 9223372036854775807) :
    Calls Tryz.prog 97 #[.slice a n cap, .int .i64 x, .int .i64 y] w fun e w' => e = .returned (.bool (insB l x y)) ∧ Below w.heap.size w w' := by
  have HV := Lib.hid hV; have HN := Lib.hid hn
  clear hV hn
  go_enter Tryz.func97, Tryz.ntmps97
  go_wp2
  go_loopw [11] (fun i wr => LookI w n (fun k => ∀ j (hj : j < l.length), j < k → ¬ inq l[j] x y) i wr) (fun i _ => n - (intOf i).toNat)
  case atStart => exact ⟨0, Nat.zero_le _, rfl, Below.refl _ _, fun j _ h => by omega⟩
  case round =>
    obtain ⟨k, hk, rfl, hb, hno⟩ := hrel
    have NO := Lib.hid hno
    clear hno
    by_cases hlt : k < n
    · have hlt' : (k : Int) < (n : Int) := by omega
      obtain ⟨b, off, rfl, hbl, c0, c1, c2, c3⟩ := (HV.out.below hb).rc k (by have := HN.out; omega)
      obtain ⟨q, hq⟩ : ∃ q, l[k]'(by have := HN.out; omega) = q := ⟨_, rfl⟩
      rw [hq] at c0 c1 c2 c3
      have HQ := Lib.hid hq
      clear hq
      obtain ⟨q0, q1, q2, q3⟩ := q
      dsimp only at c0 c1 c2 c3
      have HB := Lib.hid hb
      clear hb
      go_wp2
      all_goals first
        | (go_ret
           refine ⟨ret_bool (insB_yes k (by have := HN.out; omega) ?_).symm, ?_⟩
           · rw [HQ.out]; exact ⟨by assumption, by assumption, by assumption, by assumption⟩
           · exact bal HB.out _)
        | (go_roundw
           case rel =>
             refine ⟨k + 1, by omega, by go_num, bal HB.out _, fun j hj hjk => ?_⟩
             by_cases e : j = k
             · subst e; rw [HQ.out]; unfold inq; dsimp only; omega
             · exact NO.out j hj (by omega)
           case measure => simp [intOf]; omega)
    · have hge : ¬ (k : Int) < (n : Int) := by omega
      have HB := Lib.hid hb
      clear hb
      go_wp2
      go_ret
      exact ⟨ret_bool (insB_no fun j hj => NO.out j hj (by have := HN.out; omega)).symm, HB.out⟩

/-- How two sets are combined: 1 or, 2 and, else not. -/
def keepB (how : Int) (p q : Bool) : Bool := if how = 1 then p || q else if how = 2 then p && q else p && !q
set_option maxHeartbeats 1000000 in
theorem keep_any (p q : Bool) (how : Int) (w : World) : Calls Tryz.prog 96 #[.bool p, .bool q, .int .i64 how] w fun e w' => e = .returned (.bool (keepB how p q)) ∧ w' = w := by
  by_cases h1 : how = 1
  · subst h1
    cases p <;> cases q <;>
    · go_enter Tryz.func96, Tryz.ntmps96
      go_wp2
      go_ret
      exact ⟨rfl, rfl⟩
  · have b1 : (how == 1) = false := by simpa using h1
    by_cases h2 : how = 2
    · subst h2
      cases p <;> cases q <;>
      · go_enter Tryz.func96, Tryz.ntmps96
        go_wp2
        go_ret
        exact ⟨rfl, rfl⟩
    · have b2 : (how == 2) = false := by simpa using h2
      have e : ∀ p q, keepB how p q = (p && !q) := fun p q => by unfold keepB; rw [if_neg h1, if_neg h2]
      rw [e]
      have K1 := Lib.hid h1; have K2 := Lib.hid h2
      clear h1 h2 e
      cases p <;> cases q <;>
      · go_enter Tryz.func96, Tryz.ntmps96
        go_wp2
        go_ret
        exact ⟨rfl, rfl⟩
/-- Two bands have the same squares in their rows. -/
def sameB (l m : List Rc) : Bool := decide (l.map (fun q => (q.1, q.2.2.1)) = m.map fun q => (q.1, q.2.2.1))
theorem sameB_len {l m : List Rc} (h : l.length ≠ m.length) : sameB l m = false := by
  unfold sameB
  rw [decide_eq_false_iff_not]
  intro c
  have := congrArg List.length c
  simp at this; exact h this
theorem sameB_yes {l m : List Rc} (hl : l.length = m.length) (h : ∀ j (h1 : j < l.length) (h2 : j < m.length), l[j].1 = m[j].1 ∧ l[j].2.2.1 = m[j].2.2.1) : sameB l m = true := by
  unfold sameB
  rw [decide_eq_true_eq]
  apply List.ext_getElem (by simpa using hl)
  intro j h1 h2
  simp at h1 h2 ⊢
  exact h j h1 h2
theorem sameB_no {l m : List Rc} (j : Nat) (h1 : j < l.length) (h2 : j < m.length) (h : ¬ (l[j].1 = m[j].1 ∧ l[j].2.2.1 = m[j].2.2.1)) : sameB l m = false := by
  unfold sameB
  rw [decide_eq_false_iff_not]
  intro c
  have := congrArg (fun z => z[j]?) c
  simp [h1, h2] at this
  exact h this
/-- The same, with nothing turned but draws. -/
def LookQ (w : World) (n : Nat) (P : Nat → Prop) (i : Value) (wr : World) : Prop := ∃ k : Nat, k ≤ n ∧ i = .int .i64 k ∧ (∃ q, wr = w.drewN q) ∧ P k
theorem dq (w : World) (a b : Nat) : ∃ q, (w.drewN a).drewN b = w.drewN q := ⟨a + b, World.drewN_drewN _ _ _⟩
theorem Vw.drewN {w : World} {a : Option Addr} {xs : List Value} (h : Vw w a xs) (q : Nat) : Vw (w.drewN q) a xs := h
set_option maxHeartbeats 1000000 in
theorem same_any (a1 : Option Addr) (n1 c1 : Nat) (l1 : List Rc) (a2 : Option Addr) (n2 c2 : Nat) (l2 : List Rc) (w : World) (hV : Vw w a1 (rcCells l1)) (hn : l1.length = n1) (hc : n1 ≤ 9223372036854775807)
    (hV2 : Vw w a2 (rcCells l2)) (hn2 : l2.length = n2) (hc2 : n2 ≤ 9223372036854775807) :
    Calls Tryz.prog 98 #[.slice a1 n1 c1, .slice a2 n2 c2] w fun e w' => e = .returned (.bool (sameB l1 l2)) ∧ ∃ q, w' = w.drewN q := by
  have HV := Lib.hid hV; have HN := Lib.hid hn; have HV2 := Lib.hid hV2; have HN2 := Lib.hid hn2
  clear hV hn hV2 hn2
  by_cases hne : n1 = n2
  · subst hne
    go_enter Tryz.func98, Tryz.ntmps98
    go_wp2
    go_loopw [13] (fun i wr => LookQ w n1 (fun k => ∀ j (h1 : j < l1.length) (h2 : j < l2.length), j < k → l1[j].1 = l2[j].1 ∧ l1[j].2.2.1 = l2[j].2.2.1) i wr) (fun i _ => n1 - (intOf i).toNat)
    case atStart => exact ⟨0, Nat.zero_le _, rfl, ⟨0, rfl⟩, fun j _ _ h => by omega⟩
    case round =>
      obtain ⟨k, hk, rfl, ⟨qq, rfl⟩, hno⟩ := hrel
      have NO := Lib.hid hno
      clear hno
      by_cases hlt : k < n1
      · have hlt' : (k : Int) < (n1 : Int) := by omega
        have g1 : k < l1.length := by have := HN.out; omega
        have g2 : k < l2.length := by have := HN2.out; omega
        obtain ⟨b, off, rfl, hbl, p0, -, p2, -⟩ := HV.out.rc k g1
        obtain ⟨b', off', rfl, hbl', r0, -, r2, -⟩ := HV2.out.rc k g2
        obtain ⟨q, hq⟩ : ∃ q, l1[k]'g1 = q := ⟨_, rfl⟩
        obtain ⟨r, hr⟩ : ∃ r, l2[k]'g2 = r := ⟨_, rfl⟩
        rw [hq] at p0 p2
        rw [hr] at r0 r2
        have HQ := Lib.hid hq; have HR := Lib.hid hr
        clear hq hr
        obtain ⟨q0, q1, q2, q3⟩ := q
        obtain ⟨s0, s1, s2, s3⟩ := r
        dsimp only at p0 p2 r0 r2
        by_cases e0 : q0 = s0
        · subst e0
          by_cases e2 : q2 = s2
          · subst e2
            go_wp2
            go_quiet (fail)
            go_wp2
            go_roundw
            case rel =>
              refine ⟨k + 1, by omega, by go_num, ⟨_, rfl⟩, fun j h1 h2 hjk => ?_⟩
              by_cases e : j = k
              · subst e; rw [HQ.out, HR.out]; exact ⟨rfl, rfl⟩
              · exact NO.out j h1 h2 (by omega)
            case measure => simp [intOf]; omega
          · have b2 : (q2 != s2) = true := by simpa using e2
            have E2 := Lib.hid e2
            clear e2
            go_wp2
            go_quiet (fail)
            go_wp2
            go_ret
            exact ⟨ret_bool (sameB_no k (by have := HN.out; omega) (by have := HN2.out; omega) (by rw [HQ.out, HR.out]; exact fun c => E2.out c.2)).symm, dq _ _ _⟩
        · have b0 : (q0 != s0) = true := by simpa using e0
          have E0 := Lib.hid e0
          clear e0
          go_wp2
          go_quiet (fail)
          go_wp2
          go_ret
          exact ⟨ret_bool (sameB_no k (by have := HN.out; omega) (by have := HN2.out; omega) (by rw [HQ.out, HR.out]; exact fun c => E0.out c.1)).symm, dq _ _ _⟩
      · have hge : ¬ (k : Int) < (n1 : Int) := by omega
        go_wp2
        go_ret
        exact ⟨ret_bool (sameB_yes (by rw [HN.out, HN2.out]) fun j h1 h2 => NO.out j h1 h2 (by have := HN.out; omega)).symm, _, rfl⟩
  · have hne' : ((n1 : Int) != (n2 : Int)) = true := by simp; omega
    have NE := Lib.hid hne
    clear hne
    go_enter Tryz.func98, Tryz.ntmps98
    go_wp2
    go_ret
    exact ⟨ret_bool (sameB_len (by rw [HN.out, HN2.out]; exact NE.out)).symm, 0, rfl⟩
theorem neqRc (x y : Rc) (w : World) : Sem.run Tryz.prog (binOp .neq 73 (.agg #[.int .i64 x.1, .int .i64 x.2.1, .int .i64 x.2.2.1, .int .i64 x.2.2.2]) (.agg #[.int .i64 y.1, .int .i64 y.2.1, .int .i64 y.2.2.1, .int .i64 y.2.2.2])) w = .ok (.bool (!decide (x = y))) w := by
  have hS : Tryz.prog.underlying 73 = some (.struct (Tryz.prog.fieldsOf 73)) := by kernel_rfl
  have hp : Tryz.prog.stoodInHeld 73 = false := by kernel_rfl
  obtain ⟨a, b, c, d⟩ := x
  obtain ⟨a', b', c', d'⟩ := y
  rw [run_neq_struct, show (10000 : Nat) = 9999 + 1 from rfl, run_equalIn_agg w 9999 73 _ _ hS hp]
  simp only [Program.fieldsOf, Tryz.underlying73]
  go_simp
  by_cases h1 : a = a' <;> by_cases h2 : b = b' <;> by_cases h3 : c = c' <;> by_cases h4 : d = d' <;> simp [h1, h2, h3, h4]
set_option maxHeartbeats 1000000 in
theorem rects_eq (a1 : Option Addr) (n1 c1 : Nat) (l1 : List Rc) (a2 : Option Addr) (n2 c2 : Nat) (l2 : List Rc) (w : World) (hV : Vw w a1 (rcCells l1)) (hn : l1.length = n1) (hc : n1 ≤ 9223372036854775807)
    (hV2 : Vw w a2 (rcCells l2)) (hn2 : l2.length = n2) (hc2 : n2 ≤ 9223372036854775807) :
    Calls Tryz.prog 78 #[.slice a1 n1 c1, .slice a2 n2 c2] w fun e w' => e = .returned (.bool (decide (l1 = l2))) ∧ ∃ q, w' = w.drewN q := by
  have HV := Lib.hid hV; have HN := Lib.hid hn; have HV2 := Lib.hid hV2; have HN2 := Lib.hid hn2
  clear hV hn hV2 hn2
  by_cases hne : n1 = n2
  · subst hne
    go_enter Tryz.func78, Tryz.ntmps78
    go_wp2
    go_loopw [13] (fun i wr => LookQ w n1 (fun k => ∀ j (h1 : j < l1.length) (h2 : j < l2.length), j < k → l1[j] = l2[j]) i wr) (fun i _ => n1 - (intOf i).toNat)
    case atStart => exact ⟨0, Nat.zero_le _, rfl, ⟨0, rfl⟩, fun j _ _ h => by omega⟩
    case round =>
      obtain ⟨k, hk, rfl, ⟨qq, rfl⟩, hno⟩ := hrel
      have NO := Lib.hid hno
      clear hno
      by_cases hlt : k < n1
      · have hlt' : (k : Int) < (n1 : Int) := by omega
        have g1 : k < l1.length := by have := HN.out; omega
        have g2 : k < l2.length := by have := HN2.out; omega
        obtain ⟨b, off, rfl, hbl, p0, p1, p2, p3⟩ := HV.out.rc k g1
        obtain ⟨b', off', rfl, hbl', r0, r1, r2, r3⟩ := HV2.out.rc k g2
        obtain ⟨q, hq⟩ : ∃ q, l1[k]'g1 = q := ⟨_, rfl⟩
        obtain ⟨r, hr⟩ : ∃ r, l2[k]'g2 = r := ⟨_, rfl⟩
        rw [hq] at p0 p1 p2 p3
        rw [hr] at r0 r1 r2 r3
        have HQ := Lib.hid hq; have HR := Lib.hid hr
        clear hq hr
        have hnq := neqRc q r
        obtain ⟨dd, hdd⟩ : ∃ dd, decide (q = r) = dd := ⟨_, rfl⟩
        rw [hdd] at hnq
        have HD := Lib.hid hdd
        clear hdd
        obtain ⟨q0, q1, q2, q3⟩ := q
        obtain ⟨s0, s1, s2, s3⟩ := r
        dsimp only at p0 p1 p2 p3 r0 r1 r2 r3 hnq
        cases dd with
        | true =>
          go_wp2
          go_quiet (fail)
          go_wp2
          go_roundw
          case rel =>
            refine ⟨k + 1, by omega, by go_num, ⟨_, rfl⟩, fun j h1 h2 hjk => ?_⟩
            by_cases e : j = k
            · subst e; rw [HQ.out, HR.out]; exact of_decide_eq_true HD.out
            · exact NO.out j h1 h2 (by omega)
          case measure => simp [intOf]; omega
        | false =>
          go_wp2
          go_quiet (fail)
          go_wp2
          go_ret
          refine ⟨ret_bool ?_, dq _ _ _⟩
          refine (decide_eq_false ?_).symm
          intro c
          have := HD.out
          rw [← HQ.out, ← HR.out] at this
          subst c
          simp at this
      · have hge : ¬ (k : Int) < (n1 : Int) := by omega
        go_wp2
        go_ret
        exact ⟨ret_bool (decide_eq_true (List.ext_getElem (by rw [HN.out, HN2.out]) fun j h1 h2 => NO.out j h1 h2 (by have := HN.out; omega))).symm, _, rfl⟩
  · have hne' : ((n1 : Int) != (n2 : Int)) = true := by simp; omega
    have NE := Lib.hid hne
    clear hne
    go_enter Tryz.func78, Tryz.ntmps78
    go_wp2
    go_ret
    exact ⟨ret_bool (decide_eq_false (fun c => NE.out (by rw [← HN.out, ← HN2.out, c]))).symm, 0, rfl⟩
end Go.Proofs.YtglhenobodndjaaGreatDoor
