/- Which series shows all phases: the reference's Match. -/
import Derived.Test.YtlfcdjgmegfjoaaSmat
namespace Go.Proofs.Ytlfcdjgmegfjoaa
open Go.RowKit Go.Shelf
set_option linter.unusedVariables false
set_option linter.unusedSimpArgs false

set_option maxHeartbeats 2000000 in
theorem rMatch_bad (s : Int) (a : Option Addr) (len cap : Nat) (l : List (Int × Int)) (w : World) (hS : Ser w a l) (hl : l.length = len) (hcap : len ≤ 9223372036854775807) (pa : Option Addr) (plen pcap : Nat) (pl : List Ph) (hP : Phs w pa pl) (hpl : pl.length = plen) (hpc : plen ≤ 9223372036854775807) (c : Int) (hc : chkS s l = c) (h : c ≠ 0) :
    Calls Try.prog 26 #[.agg #[.int .i64 s, .slice a len cap], .slice pa plen pcap] w fun e w' => e = .returned (.int .i64 0) ∧ Below w.heap.size w w' := by
  have SS := Lib.hid hS
  clear hS hP hpl
  go_enter Try.func26, Try.ntmps26
  go_wp2_with (go_at_call 15; refine (rcheck_any s a len cap l _ (SS.out.alloc _) hl hcap).mono ?_; rw [hc]; rintro e w1 ⟨rfl, hb1⟩)
  all_goals first | (exfalso; omega) | (go_ret; exact ⟨rfl, by (repeat (with_reducible first | (refine bst ?_ _ _ _ (by omega)) | refine bal ?_ _ | refine bdr ?_ | exact Below.refl _ _ | refine btr ?_ hb1))⟩)
set_option maxHeartbeats 2000000 in
theorem rMatch_lim (s : Int) (a : Option Addr) (len cap : Nat) (l : List (Int × Int)) (w : World) (hS : Ser w a l) (hl : l.length = len) (hcap : len ≤ 9223372036854775807) (pa : Option Addr) (plen pcap : Nat) (pl : List Ph) (hP : Phs w pa pl) (hpl : pl.length = plen) (hpc : plen ≤ 9223372036854775807) (hc : chkS s l = 0) (h : 6 < plen) :
    Calls Try.prog 26 #[.agg #[.int .i64 s, .slice a len cap], .slice pa plen pcap] w fun e w' => e = .returned (.int .i64 0) ∧ Below w.heap.size w w' := by
  have SS := Lib.hid hS
  have h6 : (6 : Int) < (plen : Int) := by omega
  clear hS hP hpl
  go_enter Try.func26, Try.ntmps26
  go_wp2_with (go_at_call 15; refine (rcheck_any s a len cap l _ (SS.out.alloc _) hl hcap).mono ?_; rw [hc]; rintro e w1 ⟨rfl, hb1⟩)
  all_goals first | (exfalso; omega) | (go_ret; exact ⟨rfl, by (repeat (with_reducible first | (refine bst ?_ _ _ _ (by omega)) | refine bal ?_ _ | refine bdr ?_ | exact Below.refl _ _ | refine btr ?_ hb1))⟩)
structure RMa (w : World) (s : Int) (a : Option Addr) (len cap : Nat) (pl : List Ph) (i : Value) (wr : World) : Prop where
  ex : ∃ k : Nat, k ≤ pl.length ∧ i = .int .i64 k ∧ allOK pl k = true
  below : Below w.heap.size w wr
  box : Blk wr w.heap.size 25 #[.int .i64 s, .slice a len cap]
structure RMb (w : World) (s : Int) (a : Option Addr) (len cap : Nat) (l : List (Int × Int)) (pl : List Ph) (o i : Value) (wr : World) : Prop where
  ex : ∃ k : Nat, k ≤ pl.length ∧ i = .int .i64 k ∧ o = .int .i64 (mtTo (decRp s l) pl k)
  below : Below w.heap.size w wr
  box : Blk wr w.heap.size 25 #[.int .i64 s, .slice a len cap]
set_option maxRecDepth 100000 in
set_option maxHeartbeats 4000000 in
theorem rMatch_ok (s : Int) (a : Option Addr) (len cap : Nat) (l : List (Int × Int)) (w : World) (hS : Ser w a l) (hl : l.length = len) (hcap : len ≤ 9223372036854775807) (pa : Option Addr) (plen pcap : Nat) (pl : List Ph) (hP : Phs w pa pl) (hpl : pl.length = plen) (hpc : plen ≤ 9223372036854775807) (hc : chkS s l = 0) (h6 : plen ≤ 6) :
    Calls Try.prog 26 #[.agg #[.int .i64 s, .slice a len cap], .slice pa plen pcap] w fun e w' => e = .returned (.int .i64 (mtG (decRp s l) pl)) ∧ Below w.heap.size w w' := by
  have SS := Lib.hid hS; have HC := Lib.hid hc; have HL := Lib.hid hl; have HP := Lib.hid hP; have HPL := Lib.hid hpl
  have hq : ¬ (6 : Int) < (plen : Int) := by omega
  clear hS hl hc hP hpl
  go_enter Try.func26, Try.ntmps26
  go_wp2_with (go_at_call 15; refine (rcheck_any s a len cap l _ (SS.out.alloc _) HL.out hcap).mono ?_; rw [HC.out]; rintro e w1 ⟨rfl, hb1⟩; have z1 := hb1.size; (try simp at z1); have BX := Lib.hid (Blk.below (Blk.fresh rfl) hb1 (g := w.heap.size) (t := 25) (cs := #[.int .i64 s, .slice a len cap])); have yx := BX.out.lt; have LL := Lib.hid (btr (bal (Below.refl _ _) _) hb1); clear hb1)
  go_loopw [5] (fun i wr => RMa w s a len cap pl i wr) (fun i _ => plen - (intOf i).toNat)
  case atStart => exact ⟨⟨0, by omega, rfl, rfl⟩, LL.out, BX.out⟩
  case round =>
    clear yx LL BX
    obtain ⟨⟨k, hk, rfl, hok⟩, hB, hX⟩ := hrel
    have hk' : k ≤ plen := by rw [← HPL.out]; exact hk
    have BX := Lib.hid hX; have LL := Lib.hid hB; have OK := Lib.hid hok
    have yx := hX.lt
    have hz := hB.size
    have PP := (HP.out.below hB)
    clear hB hX hok hk
    by_cases hlt : k < plen
    · have hlt' : (k : Int) < (plen : Int) := by omega
      obtain ⟨b, off, rfl, c0, c1, c2, c3⟩ := PP k (by rw [HPL.out]; exact hlt)
      have yb : b < wr.heap.size := World.block_lt_of_cell? wr _ c0
      clear PP
      have eok : RowKit.Hid (allOK pl (k + 1) = (allOK pl k && decide (pE (ph pl k) = 0))) := Lib.hid rfl
      have est : RowKit.Hid (pE (ph pl k) ≠ 0 → allOK pl plen = false) := Lib.hid (fun h => allOK_stop h hlt)
      generalize ph pl k = q at c0 c1 c2 c3 eok est
      obtain ⟨k0, f, u, v⟩ := q
      change wr.cell? _ = some (.int .i64 k0) at c0; change wr.cell? _ = some (.int .i64 f) at c1; change wr.cell? _ = some (.int .i64 u) at c2; change wr.cell? _ = some (.int .i64 v) at c3
      by_cases he : phE k0 f u v = 0
      · have HE := Lib.hid he
        clear he
        go_wp2_with (go_at_call 19; refine (rphase_any k0 f u v _).mono ?_; rw [HE.out]; rintro e w2 ⟨rfl, hb2⟩; have z3 := hb2.size; (try simp at z3); have LL := Lib.hid (show Below w.heap.size w _ from (by first | exact btr LL.out hb2 | exact btr (bal LL.out _) hb2 | exact btr (bdr LL.out) hb2)); have BX := Lib.hid (show Blk _ w.heap.size 25 #[.int .i64 s, .slice a len cap] from (by first | exact BX.out.below hb2 | exact (BX.out.alloc _).below hb2 | exact BX.out.drew.below hb2)); have x0 := BX.out.cell 0; have x1 := BX.out.cell 1; have yx := BX.out.lt; (try simp at x0 x1); clear hb2)
        go_roundw
        case rel => exact ⟨⟨k + 1, by rw [HPL.out]; omega, by go_num, by rw [eok.out, OK.out]; simp [pE, HE.out]⟩, LL.out, BX.out⟩
        case measure => simp [intOf]; omega
      · have EO := Lib.hid (est.out he)
        have HE := Lib.hid he
        generalize hce : phE k0 f u v = ce at he HE
        have HCE := Lib.hid hce
        clear hce
        go_wp2_with (go_at_call 19; refine (rphase_any k0 f u v _).mono ?_; rw [HCE.out]; rintro e w2 ⟨rfl, hb2⟩; have z3 := hb2.size; (try simp at z3); have LL := Lib.hid (show Below w.heap.size w _ from (by first | exact btr LL.out hb2 | exact btr (bal LL.out _) hb2 | exact btr (bdr LL.out) hb2)); have BX := Lib.hid (show Blk _ w.heap.size 25 #[.int .i64 s, .slice a len cap] from (by first | exact BX.out.below hb2 | exact (BX.out.alloc _).below hb2 | exact BX.out.drew.below hb2)); have x0 := BX.out.cell 0; have x1 := BX.out.cell 1; have yx := BX.out.lt; (try simp at x0 x1); clear hb2)
        all_goals first | (exfalso; omega) | (go_ret; exact ⟨ret_int (by unfold mtG; rw [HPL.out, EO.out]; rfl), LL.out⟩)
    · have hkl : k = plen := by omega
      have HK := Lib.hid hkl
      have hge : ¬ (k : Int) < (plen : Int) := by omega
      clear PP hkl
      go_wp2
      go_loopw [6, 7] (fun o i wr => RMb w s a len cap l pl o i wr) (fun _ i _ => plen - (intOf i).toNat)
      case atStart => exact ⟨⟨0, by omega, rfl, rfl⟩, LL.out, BX.out⟩
      case round =>
        clear yx LL BX hz hge
        obtain ⟨⟨k', hk2, rfl, rfl⟩, hB, hX⟩ := hrel
        have hk2' : k' ≤ plen := by rw [← HPL.out]; exact hk2
        rename World => wv
        have BX := Lib.hid hX; have LL := Lib.hid hB
        have x0 := hX.cell 0; have x1 := hX.cell 1; have yx := hX.lt
        (try simp at x0 x1)
        have hz := hB.size
        have PP := (HP.out.below hB)
        clear hB hX hk2
        by_cases hlt : k' < plen
        · have hlt' : (k' : Int) < (plen : Int) := by omega
          obtain ⟨b, off, rfl, c0, c1, c2, c3⟩ := PP k' (by rw [HPL.out]; exact hlt)
          have yb := World.block_lt_of_cell? _ _ c0
          clear PP
          have emt : RowKit.Hid (mtTo (decRp s l) pl (k' + 1) = min (mtTo (decRp s l) pl k') (decRp s l (ph pl k'))) := Lib.hid rfl
          have eE : RowKit.Hid (pE (ph pl k') = 0) := Lib.hid (allOK_at (by rw [← HK.out]; exact OK.out) hlt)
          generalize ph pl k' = q at c0 c1 c2 c3 emt eE
          obtain ⟨k0, f, u, v⟩ := q
          dsimp only at c0 c1 c2 c3
          have HE : RowKit.Hid (phE k0 f u v = 0) := eE
          go_wp2
          go_region_held3 (fun w' => w'.cell? ⟨w.heap.size, 0, none⟩ = some (.int .i64 s) ∧ w'.cell? ⟨w.heap.size, 1, none⟩ = some (.slice a len cap) ∧ w'.cell? ⟨b, off + k' * 4, none⟩ = some (.int .i64 k0) ∧ w'.cell? ⟨b, off + k' * 4 + 1, none⟩ = some (.int .i64 f) ∧ w'.cell? ⟨b, off + k' * 4 + 2, none⟩ = some (.int .i64 u) ∧ w'.cell? ⟨b, off + k' * 4 + 3, none⟩ = some (.int .i64 v)) (simp [go_sem, *])
            (first | (go_at_call 24; refine (rDecide_ok s a len cap l _ (by first | exact SS.out.below LL.out | exact (SS.out.below LL.out).drew) HL.out hcap k0 f u v HC.out HE.out).mono ?_; rintro e w3 ⟨rfl, hb3⟩; have c0 := bc1 hb3 (by first | exact c0 | simpa using c0); have c1 := bc1 hb3 (by first | exact c1 | simpa using c1); have c2 := bc1 hb3 (by first | exact c2 | simpa using c2); have c3 := bc1 hb3 (by first | exact c3 | simpa using c3); have z3 := hb3.size; (try simp at z3); have LL := Lib.hid (show Below w.heap.size w _ from (by first | exact btr LL.out hb3 | exact btr (bal LL.out _) hb3 | exact btr (bdr LL.out) hb3)); have BX := Lib.hid (show Blk _ w.heap.size 25 #[.int .i64 s, .slice a len cap] from (by first | exact BX.out.below hb3 | exact (BX.out.alloc _).below hb3 | exact BX.out.drew.below hb3)); have x0 := BX.out.cell 0; have x1 := BX.out.cell 1; have yx := BX.out.lt; (try simp at x0 x1); clear hb3))
          all_goals go_wp2
          all_goals
            go_roundw
            case rel => exact ⟨⟨k' + 1, by rw [HPL.out]; omega, by go_num, by rw [emt.out]; congr 1; unfold decRp; dsimp only; split <;> omega⟩, LL.out, BX.out⟩
            case measure => simp [intOf]; omega
        · have hkl : k' = plen := by omega
          have HK' := Lib.hid hkl
          have hge : ¬ (k' : Int) < (plen : Int) := by omega
          clear PP hkl
          go_wp2
          go_ret
          exact ⟨ret_int (by unfold mtG; rw [HPL.out, ← HK.out, OK.out, HK.out, HK'.out]; rfl), LL.out⟩

theorem rMatch_any (s : Int) (a : Option Addr) (len cap : Nat) (l : List (Int × Int)) (w : World) (hS : Ser w a l) (hl : l.length = len) (hcap : len ≤ 9223372036854775807) (pa : Option Addr) (plen pcap : Nat) (pl : List Ph) (hP : Phs w pa pl) (hpl : pl.length = plen) (hpc : plen ≤ 9223372036854775807) :
    Calls Try.prog 26 #[.agg #[.int .i64 s, .slice a len cap], .slice pa plen pcap] w fun e w' => e = .returned (.int .i64 (mtAny (decRp s l) s l pl)) ∧ Below w.heap.size w w' := by
  unfold mtAny
  by_cases hc : chkS s l = 0
  · rw [if_pos hc]
    by_cases h6 : 6 < pl.length
    · rw [if_pos h6]; exact rMatch_lim s a len cap l w hS hl hcap pa plen pcap pl hP hpl hpc hc (by omega)
    · rw [if_neg h6]; exact rMatch_ok s a len cap l w hS hl hcap pa plen pcap pl hP hpl hpc hc (by omega)
  · rw [if_neg hc]; exact rMatch_bad s a len cap l w hS hl hcap pa plen pcap pl hP hpl hpc _ rfl hc

end Go.Proofs.Ytlfcdjgmegfjoaa
