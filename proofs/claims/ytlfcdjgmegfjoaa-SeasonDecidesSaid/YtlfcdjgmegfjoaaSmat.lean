/- Which series shows all phases: Match, the program's and the reference's. -/
import Derived.Test.YtlfcdjgmegfjoaaSrop
namespace Go.Proofs.Ytlfcdjgmegfjoaa
open Go.RowKit Go.Shelf
set_option linter.unusedVariables false
set_option linter.unusedSimpArgs false

abbrev Ph := Int × Int × Int × Int
def ph (pl : List Ph) (j : Nat) : Ph := pl.getD j (0, 0, 0, 0)
def pE (p : Ph) : Int := phE p.1 p.2.1 p.2.2.1 p.2.2.2
/-- The phases lie in memory. -/
def Phs (w : World) (a : Option Addr) (pl : List Ph) : Prop :=
  ∀ j, j < pl.length → ∃ b off : Nat, a = some ⟨b, off, none⟩ ∧ w.cell? ⟨b, off + j * 4, none⟩ = some (.int .i64 (ph pl j).1) ∧ w.cell? ⟨b, off + j * 4 + 1, none⟩ = some (.int .i64 (ph pl j).2.1) ∧
    w.cell? ⟨b, off + j * 4 + 2, none⟩ = some (.int .i64 (ph pl j).2.2.1) ∧ w.cell? ⟨b, off + j * 4 + 3, none⟩ = some (.int .i64 (ph pl j).2.2.2)
theorem Phs.below {w wx : World} {a : Option Addr} {pl : List Ph} (h : Phs w a pl) (hb : Below w.heap.size w wx) : Phs wx a pl := fun j hj => by
  obtain ⟨b, off, e, h1, h2, h3, h4⟩ := h j hj
  exact ⟨b, off, e, bc1 hb h1, bc1 hb h2, bc1 hb h3, bc1 hb h4⟩
theorem Phs.alloc {w : World} {a : Option Addr} {pl : List Ph} (h : Phs w a pl) (o : Obj) : Phs (w.alloc o) a pl := h.below ((Below.refl _ _).alloc (Nat.le_refl _) o)
theorem Phs.drew {w : World} {a : Option Addr} {pl : List Ph} (h : Phs w a pl) : Phs w.drew a pl := h
def mtTo (dec : Ph → Int) (pl : List Ph) : Nat → Int
  | 0 => 1
  | k + 1 => min (mtTo dec pl k) (dec (ph pl k))
def allOK (pl : List Ph) : Nat → Bool
  | 0 => true
  | k + 1 => allOK pl k && decide (pE (ph pl k) = 0)
theorem allOK_stop {pl : List Ph} {k n : Nat} (h : pE (ph pl k) ≠ 0) (hk : k < n) : allOK pl n = false := by
  induction n with
  | zero => omega
  | succ n ih =>
    by_cases e : k = n
    · subst e; simp [allOK, h]
    · simp [allOK, ih (by omega)]
theorem allOK_at {pl : List Ph} {n k : Nat} (h : allOK pl n = true) (hk : k < n) : pE (ph pl k) = 0 := by
  by_cases e : pE (ph pl k) = 0
  · exact e
  · rw [allOK_stop e hk] at h; cases h
def mtG (dec : Ph → Int) (pl : List Ph) : Int := if allOK pl pl.length then mtTo dec pl pl.length else 0
def mtAny (dec : Ph → Int) (s : Int) (l : List (Int × Int)) (pl : List Ph) : Int :=
  if chkS s l = 0 then if 6 < pl.length then 0 else mtG dec pl else 0
def decPp (s : Int) (l : List (Int × Int)) (p : Ph) : Int := decP s l p.1 p.2.1 p.2.2.1 p.2.2.2
def decRp (s : Int) (l : List (Int × Int)) (p : Ph) : Int := decR s l p.1 p.2.1 p.2.2.1 p.2.2.2

structure PMt (w : World) (s : Int) (a : Option Addr) (len cap : Nat) (l : List (Int × Int)) (pl : List Ph) (o i : Value) (wr : World) : Prop where
  ex : ∃ k : Nat, k ≤ pl.length ∧ i = .int .i64 k ∧ allOK pl k = true ∧ o = .int .i64 (mtTo (decPp s l) pl k)
  below : Below w.heap.size w wr
  box : Blk wr w.heap.size 25 #[.int .i64 s, .slice a len cap]

set_option maxHeartbeats 2000000 in
theorem pMatch_bad (s : Int) (a : Option Addr) (len cap : Nat) (l : List (Int × Int)) (w : World) (hS : Ser w a l) (hl : l.length = len) (hcap : len ≤ 9223372036854775807) (pa : Option Addr) (plen pcap : Nat) (pl : List Ph) (hP : Phs w pa pl) (hpl : pl.length = plen) (hpc : plen ≤ 9223372036854775807) (c : Int) (hc : chkS s l = c) (h : c ≠ 0) :
    Calls Try.prog 25 #[.agg #[.int .i64 s, .slice a len cap], .slice pa plen pcap] w fun e w' => e = .returned (.int .i64 0) ∧ Below w.heap.size w w' := by
  have SS := Lib.hid hS
  clear hS hP hpl
  go_enter Try.func25, Try.ntmps25
  go_wp2_with (go_at_call 14; refine (pcheck_any s a len cap l _ (SS.out.alloc _) hl hcap).mono ?_; rw [hc]; rintro e w1 ⟨rfl, hb1⟩)
  all_goals first | (exfalso; omega) | (go_ret; exact ⟨rfl, by (repeat (with_reducible first | (refine bst ?_ _ _ _ (by omega)) | refine bal ?_ _ | refine bdr ?_ | exact Below.refl _ _ | refine btr ?_ hb1))⟩)
set_option maxHeartbeats 2000000 in
theorem pMatch_lim (s : Int) (a : Option Addr) (len cap : Nat) (l : List (Int × Int)) (w : World) (hS : Ser w a l) (hl : l.length = len) (hcap : len ≤ 9223372036854775807) (pa : Option Addr) (plen pcap : Nat) (pl : List Ph) (hP : Phs w pa pl) (hpl : pl.length = plen) (hpc : plen ≤ 9223372036854775807) (hc : chkS s l = 0) (h : 6 < plen) :
    Calls Try.prog 25 #[.agg #[.int .i64 s, .slice a len cap], .slice pa plen pcap] w fun e w' => e = .returned (.int .i64 0) ∧ Below w.heap.size w w' := by
  have SS := Lib.hid hS
  have h6 : (6 : Int) < (plen : Int) := by omega
  clear hS hP hpl
  go_enter Try.func25, Try.ntmps25
  go_wp2_with (go_at_call 14; refine (pcheck_any s a len cap l _ (SS.out.alloc _) hl hcap).mono ?_; rw [hc]; rintro e w1 ⟨rfl, hb1⟩)
  all_goals first | (exfalso; omega) | (go_ret; exact ⟨rfl, by (repeat (with_reducible first | (refine bst ?_ _ _ _ (by omega)) | refine bal ?_ _ | refine bdr ?_ | exact Below.refl _ _ | refine btr ?_ hb1))⟩)
set_option maxRecDepth 100000 in
set_option maxHeartbeats 4000000 in
theorem pMatch_ok (s : Int) (a : Option Addr) (len cap : Nat) (l : List (Int × Int)) (w : World) (hS : Ser w a l) (hl : l.length = len) (hcap : len ≤ 9223372036854775807) (pa : Option Addr) (plen pcap : Nat) (pl : List Ph) (hP : Phs w pa pl) (hpl : pl.length = plen) (hpc : plen ≤ 9223372036854775807) (hc : chkS s l = 0) (h6 : plen ≤ 6) :
    Calls Try.prog 25 #[.agg #[.int .i64 s, .slice a len cap], .slice pa plen pcap] w fun e w' => e = .returned (.int .i64 (mtG (decPp s l) pl)) ∧ Below w.heap.size w w' := by
  have SS := Lib.hid hS; have HC := Lib.hid hc; have HL := Lib.hid hl; have HP := Lib.hid hP; have HPL := Lib.hid hpl
  have hq : ¬ (6 : Int) < (plen : Int) := by omega
  clear hS hl hc hP hpl
  go_enter Try.func25, Try.ntmps25
  go_wp2_with (go_at_call 14; refine (pcheck_any s a len cap l _ (SS.out.alloc _) HL.out hcap).mono ?_; rw [HC.out]; rintro e w1 ⟨rfl, hb1⟩; have z1 := hb1.size; (try simp at z1); have BX := Lib.hid (Blk.below (Blk.fresh rfl) hb1 (g := w.heap.size) (t := 25) (cs := #[.int .i64 s, .slice a len cap])); have yx := BX.out.lt; have LL := Lib.hid (btr (bal (Below.refl _ _) _) hb1); clear hb1)
  go_loopw [5, 18] (fun o i wr => PMt w s a len cap l pl o i wr) (fun _ i _ => plen - (intOf i).toNat)
  case atStart => exact ⟨⟨0, by omega, rfl, rfl, rfl⟩, LL.out, BX.out⟩
  case round =>
    clear yx LL BX
    obtain ⟨⟨k, hk, rfl, hok, rfl⟩, hB, hX⟩ := hrel
    have hk' : k ≤ plen := by rw [← HPL.out]; exact hk
    have BX := Lib.hid hX; have LL := Lib.hid hB; have OK := Lib.hid hok
    have x0 : wr.cell? ⟨w.heap.size, 0, none⟩ = some (.int .i64 s) := hX.cell 0; have x1 : wr.cell? ⟨w.heap.size, 1, none⟩ = some (.slice a len cap) := hX.cell 1; have yx := hX.lt
    have hz := hB.size
    have PP := (HP.out.below hB)
    clear hB hX hok hk
    by_cases hlt : k < plen
    · have hlt' : (k : Int) < (plen : Int) := by omega
      obtain ⟨b, off, rfl, c0, c1, c2, c3⟩ := PP k (by rw [HPL.out]; exact hlt)
      have yb : b < wr.heap.size := World.block_lt_of_cell? wr _ c0
      clear PP
      have emt : RowKit.Hid (mtTo (decPp s l) pl (k + 1) = min (mtTo (decPp s l) pl k) (decPp s l (ph pl k))) := Lib.hid rfl
      have eok : RowKit.Hid (allOK pl (k + 1) = (allOK pl k && decide (pE (ph pl k) = 0))) := Lib.hid rfl
      have est : RowKit.Hid (pE (ph pl k) ≠ 0 → allOK pl plen = false) := Lib.hid (fun h => allOK_stop h hlt)
      generalize ph pl k = q at c0 c1 c2 c3 emt eok est
      obtain ⟨k0, f, u, v⟩ := q
      change wr.cell? _ = some (.int .i64 k0) at c0; change wr.cell? _ = some (.int .i64 f) at c1; change wr.cell? _ = some (.int .i64 u) at c2; change wr.cell? _ = some (.int .i64 v) at c3
      by_cases he : phE k0 f u v = 0
      · have HE := Lib.hid he
        clear he
        go_wp2_with first | (go_at_call 18; refine (pphase_any k0 f u v _).mono ?_; rw [HE.out]; rintro e w2 ⟨rfl, hb2⟩; have BQ := Blk.below (Blk.fresh rfl) hb2 (g := wr.heap.size) (t := 27) (cs := #[.int .i64 k0, .int .i64 f, .int .i64 u, .int .i64 v]); have q0 := BQ.cell 0; have q1 := BQ.cell 1; have q2 := BQ.cell 2; have q3 := BQ.cell 3; have yq := BQ.lt; (try simp at q0 q1 q2 q3); clear BQ; have z3 := hb2.size; (try simp at z3); have LL := Lib.hid (show Below w.heap.size w _ from (by first | exact btr LL.out hb2 | exact btr (bal LL.out _) hb2 | exact btr (bdr LL.out) hb2)); have BX := Lib.hid (show Blk _ w.heap.size 25 #[.int .i64 s, .slice a len cap] from (by first | exact BX.out.below hb2 | exact (BX.out.alloc _).below hb2 | exact BX.out.drew.below hb2)); have x0 := BX.out.cell 0; have x1 := BX.out.cell 1; have yx := BX.out.lt; (try simp at x0 x1); clear hb2) | (go_at_call 23; refine (pDecide_ok s a len cap l _ (SS.out.below LL.out) HL.out hcap k0 f u v HC.out HE.out).mono ?_; rintro e w3 ⟨rfl, hb3⟩; have z3 := hb3.size; (try simp at z3); have LL := Lib.hid (show Below w.heap.size w _ from (by first | exact btr LL.out hb3 | exact btr (bal LL.out _) hb3 | exact btr (bdr LL.out) hb3)); have BX := Lib.hid (show Blk _ w.heap.size 25 #[.int .i64 s, .slice a len cap] from (by first | exact BX.out.below hb3 | exact (BX.out.alloc _).below hb3 | exact BX.out.drew.below hb3)); have x0 := BX.out.cell 0; have x1 := BX.out.cell 1; have yx := BX.out.lt; (try simp at x0 x1); clear hb3)
        go_roundw
        case rel => exact ⟨⟨k + 1, by rw [HPL.out]; omega, by go_num, by rw [eok.out, OK.out]; simp [pE, HE.out], by rw [emt.out]; congr 1; unfold decPp; dsimp only; split <;> omega⟩, LL.out, BX.out⟩
        case measure => simp [intOf]; omega
      · have EO := Lib.hid (est.out he)
        have HE := Lib.hid he
        generalize hce : phE k0 f u v = ce at he HE
        have HCE := Lib.hid hce
        clear hce
        go_wp2_with (go_at_call 18; refine (pphase_any k0 f u v _).mono ?_; rw [HCE.out]; rintro e w2 ⟨rfl, hb2⟩; have z3 := hb2.size; (try simp at z3); have LL := Lib.hid (show Below w.heap.size w _ from (by first | exact btr LL.out hb2 | exact btr (bal LL.out _) hb2 | exact btr (bdr LL.out) hb2)); have BX := Lib.hid (show Blk _ w.heap.size 25 #[.int .i64 s, .slice a len cap] from (by first | exact BX.out.below hb2 | exact (BX.out.alloc _).below hb2 | exact BX.out.drew.below hb2)); have x0 := BX.out.cell 0; have x1 := BX.out.cell 1; have yx := BX.out.lt; (try simp at x0 x1); clear hb2)
        all_goals first | (exfalso; omega) | (go_ret; exact ⟨ret_int (by unfold mtG; rw [HPL.out, EO.out]; rfl), LL.out⟩)
    · have hkl : k = plen := by omega
      have HK := Lib.hid hkl
      have hge : ¬ (k : Int) < (plen : Int) := by omega
      clear PP hkl
      go_wp2
      go_ret
      exact ⟨ret_int (by unfold mtG; rw [HPL.out, ← HK.out, OK.out]; rfl), LL.out⟩

theorem pMatch_any (s : Int) (a : Option Addr) (len cap : Nat) (l : List (Int × Int)) (w : World) (hS : Ser w a l) (hl : l.length = len) (hcap : len ≤ 9223372036854775807) (pa : Option Addr) (plen pcap : Nat) (pl : List Ph) (hP : Phs w pa pl) (hpl : pl.length = plen) (hpc : plen ≤ 9223372036854775807) :
    Calls Try.prog 25 #[.agg #[.int .i64 s, .slice a len cap], .slice pa plen pcap] w fun e w' => e = .returned (.int .i64 (mtAny (decPp s l) s l pl)) ∧ Below w.heap.size w w' := by
  unfold mtAny
  by_cases hc : chkS s l = 0
  · rw [if_pos hc]
    by_cases h6 : 6 < pl.length
    · rw [if_pos h6]; exact pMatch_lim s a len cap l w hS hl hcap pa plen pcap pl hP hpl hpc hc (by omega)
    · rw [if_neg h6]; exact pMatch_ok s a len cap l w hS hl hcap pa plen pcap pl hP hpl hpc hc (by omega)
  · rw [if_neg hc]; exact pMatch_bad s a len cap l w hS hl hcap pa plen pcap pl hP hpl hpc _ rfl hc

end Go.Proofs.Ytlfcdjgmegfjoaa
