/- The walk of AppealAnswers: it answers true. -/
import Derived.Test.YtldhcgihhknmjaaAnswa
namespace Go.Proofs.Ytldhcgihhknmjaa
open Go.RowKit

/-- The loops' relation: the index, and the blocks. -/
def AnL (w : World) (hi : Nat) (gs : List (Nat × Nat)) (n : Nat) (v : Value) (wr : World) : Prop := ∃ i : Nat, v = .int .i64 i ∧ i ≤ n ∧ Al w hi gs wr

theorem Al.cellOf {w wx : World} {hi : Nat} {gs : List (Nat × Nat)} {o : Obj} {g k : Nat} {v : Value} (_ : Al w hi gs (wx.alloc o)) (hg : g < wx.heap.size) (h : wx.cell? ⟨g, k, none⟩ = some v) : (wx.alloc o).cell? ⟨g, k, none⟩ = some v :=
  (World.cell?_alloc_lt wx o _ hg).trans h
/-- Behind the first comparison: nothing parted, and the cells are what they were. -/
def AnC (w : World) (gy gz : Nat) (L A K S T : Int) (hi : Nat) (gs : List (Nat × Nat)) (v : Value) (wx : World) : Prop :=
  v = .bool false ∧ Al w hi gs wx ∧ wx.cell? ⟨gy, 0, none⟩ = some (.int .i64 L) ∧ wx.cell? ⟨gy, 1, none⟩ = some (.int .i64 A) ∧ wx.cell? ⟨gz, 0, none⟩ = some (.int .i64 K) ∧ wx.cell? ⟨gz, 1, none⟩ = some (.int .i64 S) ∧ wx.cell? ⟨gz, 2, none⟩ = some (.int .i64 T)

/-- Behind the days: their slice, and what is kept. -/
def AnD (w : World) (gy gz : Nat) (L A K S T : Int) (hi : Nat) (gs : List (Nat × Nat)) (v u x : Value) (wx : World) : Prop :=
  ∃ g3 : Nat, hi ≤ g3 ∧ v = .slice (some ⟨g3, 0, none⟩) 4 4 ∧ u = .int .i64 4 ∧ x = .int .i64 0 ∧ Al w (g3 + 1) ((g3, 4) :: gs) wx ∧ Cs wx gy [.int .i64 L, .int .i64 A] ∧ Cs wx gz [.int .i64 K, .int .i64 S, .int .i64 T]
theorem AnD.of {w wx : World} {gy gz hi : Nat} {L A K S T a b c d : Int} {gs : List (Nat × Nat)} {t : TypeId} (h : Al w hi gs wx) (hy : Cs wx gy [.int .i64 L, .int .i64 A]) (hz : Cs wx gz [.int .i64 K, .int .i64 S, .int .i64 T]) :
    AnD w gy gz L A K S T hi gs (.slice (some ⟨wx.heap.size, 0, none⟩) 4 4) (.int .i64 4) (.int .i64 0) (wx.alloc (.cells #[.int .i64 a, .int .i64 b, .int .i64 c, .int .i64 d] t)).drew :=
  ⟨wx.heap.size, h.le, rfl, rfl, rfl, ((h.alloc _).more (IB.of4 (Blk.new wx _ _)) (by have := h.le; omega) (by simp) (by omega)).drew, (hy.alloc _).drew, (hz.alloc _).drew⟩
def AnI (w : World) (gy gz g3 : Nat) (L A K S T : Int) (gs : List (Nat × Nat)) (v : Value) (wx : World) : Prop :=
  ∃ k : Nat, v = .int .i64 k ∧ k ≤ 4 ∧ Al w (g3 + 1) ((g3, 4) :: gs) wx ∧ Cs wx gy [.int .i64 L, .int .i64 A] ∧ Cs wx gz [.int .i64 K, .int .i64 S, .int .i64 T]

def AnE (w : World) (gy : Nat) (L A : Int) (hi : Nat) (gs : List (Nat × Nat)) (v u x : Value) (wx : World) : Prop :=
  ∃ g3 : Nat, hi ≤ g3 ∧ v = .slice (some ⟨g3, 0, none⟩) 4 4 ∧ u = .int .i64 4 ∧ x = .int .i64 0 ∧ Al w (g3 + 1) ((g3, 4) :: gs) wx ∧ Cs wx gy [.int .i64 L, .int .i64 A]
theorem AnE.of {w wx : World} {gy hi : Nat} {L A a b c d : Int} {gs : List (Nat × Nat)} {t : TypeId} (h : Al w hi gs wx) (hy : Cs wx gy [.int .i64 L, .int .i64 A]) :
    AnE w gy L A hi gs (.slice (some ⟨wx.heap.size, 0, none⟩) 4 4) (.int .i64 4) (.int .i64 0) (wx.alloc (.cells #[.int .i64 a, .int .i64 b, .int .i64 c, .int .i64 d] t)).drew :=
  ⟨wx.heap.size, h.le, rfl, rfl, rfl, ((h.alloc _).more (IB.of4 (Blk.new wx _ _)) (by have := h.le; omega) (by simp) (by omega)).drew, (hy.alloc _).drew⟩
def AnK (w : World) (gy g3 : Nat) (L A : Int) (gs : List (Nat × Nat)) (v : Value) (wx : World) : Prop :=
  ∃ k : Nat, v = .int .i64 k ∧ k ≤ 4 ∧ Al w (g3 + 1) ((g3, 4) :: gs) wx ∧ Cs wx gy [.int .i64 L, .int .i64 A]

set_option maxRecDepth 100000 in
set_option maxHeartbeats 8000000 in
theorem answers_walk (a0 : Option Addr) (len0 cap0 : Nat) (z0 : List Int) (x1 x2 r1 r2 r3 day by_ : Int) (changed : Bool) (w : World) (hr : IsRow .i64 w a0 len0 cap0 z0) :
    Calls Try.prog 4 #[.slice a0 len0 cap0, .agg #[.int .i64 x1, .int .i64 x2], .agg #[.int .i64 r1, .int .i64 r2, .int .i64 r3], .int .i64 day, .int .i64 by_, .bool changed] w fun e w' => e = .returned (.bool true) ∧ Below w.heap.size w w' := by
  have R := Lib.hid ((hr.alloc (.cells #[.int .i64 x1, .int .i64 x2] 26)).alloc (.cells #[.int .i64 r1, .int .i64 r2, .int .i64 r3] 29))
  clear hr
  go_enter Try.func4, Try.ntmps4
  go_wp2_with fail
  refine (new_any _ _ _ _ _ R.out).mono ?_
  rintro e w1 ⟨rfl, hbw1, hT1⟩
  have X1 : Blk w1 w.heap.size 26 #[.int .i64 x1, .int .i64 x2] := ((Blk.new w _ _).alloc _).below hbw1
  have Y1 : Blk w1 (w.heap.size + 1) 29 #[.int .i64 r1, .int .i64 r2, .int .i64 r3] := (Blk.fresh (by simp)).below hbw1
  have L1 : Below w.heap.size w w1 := btr (bal (bal (Below.refl _ _) _) _) hbw1
  have hz1 := hT1.lt
  simp at hz1 hT1
  go_wp2_with fail
  refine (terms_any _ _ hT1).mono ?_; rintro e w2 ⟨L0, A0, l1, l2, l3, l4, rfl, hs2⟩
  have X2 := X1.step hs2 (by omega); have Y2 := Y1.step hs2 (by omega); have L2 := bos L1 (by omega) hs2; have T2 := hs2.now; have hz2 := T2.lt
  clear X1 Y1 L1 hs2 hT1
  have XX := Lib.hid X2; have YY := Lib.hid Y2; have LL := Lib.hid L2; have TT := Lib.hid T2
  clear X2 Y2 L2 T2
  go_wp2_with fail
  refine (appeal_any _ _ _ _ (TT.out.alloc _) l1 l2 l3 l4).mono ?_; rintro e w3 ⟨K0, S0, T0, _, rfl, hs3⟩
  have X3 := (XX.out.alloc _).step hs3 (by omega); have Y3 := (YY.out.alloc _).step hs3 (by omega); have L3 := bos (bal LL.out _) (by omega) hs3; have T3 := hs3.now; have Z3 := (Blk.new w2 _ _).step hs3 (by omega); have hz3 := T3.lt; have hy3 := Z3.lt
  clear hs3 l1 l2 l3 l4
  have X4 := Lib.hid X3; have Y4 := Lib.hid Y3; have L4 := Lib.hid L3; have T4 := Lib.hid T3; have Z4 := Lib.hid Z3
  clear X3 Y3 L3 T3 Z3 XX YY LL TT
  go_wp2_with fail
  refine (next_any _ _ _ ((T4.out.alloc _).alloc _) (by omega) (by omega)).mono ?_; rintro e w4 ⟨c, c1, c2, rfl, hs4⟩
  have hn4 : w3.heap.size + 2 ≤ w4.heap.size := by have := hs4.size; simp at this; omega
  have A4 : Al w w4.heap.size [(w3.heap.size + 1, 3), (w3.heap.size, 3), (w2.heap.size, 2), (w.heap.size + 1, 3), (w.heap.size, 2)] w4 := by
    refine ((((Al.more (hi := w4.heap.size) (hj := w4.heap.size) (gs := []) ⟨bos (bal (bal L4.out _) _) (by omega) hs4, by omega, Nat.le_refl _, by simp⟩ (IB.of2 (((X4.out.alloc _).alloc _).step hs4 (by omega))) (Nat.le_refl _) (Nat.le_refl _) (by omega)).more (IB.of3 (((Y4.out.alloc _).alloc _).step hs4 (by omega))) (Nat.le_refl _) (Nat.le_refl _) (by omega)).more (IB.of2 (((Z4.out.alloc _).alloc _).step hs4 (by omega))) (Nat.le_refl _) (Nat.le_refl _) (by omega)).more (IB.of3 (((Blk.new w3 _ _).alloc _).step hs4 (by omega))) (Nat.le_refl _) (Nat.le_refl _) (by omega)).more (IB.of3 ((Blk.fresh (by simp)).step hs4 (by omega))) (Nat.le_refl _) (Nat.le_refl _) (by omega)
  have hlo : w.heap.size ≤ w3.heap.size + 1 := by omega
  have H4 := Lib.hid A4
  clear A4 X4 Y4 L4 T4 Z4 hs4
  generalize w4.heap.size = h0 at *
  generalize w3.heap.size + 1 = bo at *
  generalize w3.heap.size = ba at *
  generalize w2.heap.size = bt at *
  generalize w.heap.size + 1 + 1 = bb at *
  obtain ⟨q0, co0, fo0⟩ := H4.out.at_ (g := bo) (n := 3) (by simp) 0 (by omega); obtain ⟨q1, co1, fo1⟩ := H4.out.at_ (g := bo) (n := 3) (by simp) 1 (by omega); obtain ⟨q2, co2, fo2⟩ := H4.out.at_ (g := bo) (n := 3) (by simp) 2 (by omega)
  go_upto_block 0 with fail
  go_cut [] (fun wx => Al w h0 [(bo, 3), (ba, 3), (bt, 2), (w.heap.size + 1, 3), (w.heap.size, 2)] wx)
  case first => as_aux_lemma =>
    have hcc : c = 0 ∨ c = 1 ∨ c = 2 ∨ c = 3 := by omega
    rcases hcc with rfl | rfl | rfl | rfl
    · go_wp2
      go_meet
      case rel => exact H4.out
    · go_wp2
      go_meet
      case rel => exact H4.out.put (n := 3) (.head _) _ _ hlo
    · go_wp2_with (go_at_call 13; refine (mod_any _ _ _ (by omega) (by omega)).mono ?_; rintro e w5 ⟨rfl, rfl⟩)
      go_meet
      case rel => exact H4.out.put (n := 3) (.head _) _ _ hlo
    · go_wp2_with fail
      go_region_with (go_at_call 13; refine (mod_any _ _ _ (by omega) (by omega)).mono ?_; rintro e w5 ⟨rfl, rfl⟩)
      all_goals (go_wp2_with fail)
      all_goals go_meet
      all_goals (case rel => exact (H4.out.put (n := 3) (.head _) _ _ hlo).drew)
  case rest =>
    clear H4 co0 co1 co2 fo0 fo1 fo2 c1 c2
    obtain ⟨v0, ct0, _⟩ := hcut.at_ (g := bt) (n := 2) (.tail _ (.tail _ (.head _))) 0 (by omega); obtain ⟨v1, ct1, _⟩ := hcut.at_ (g := bt) (n := 2) (.tail _ (.tail _ (.head _))) 1 (by omega)
    obtain ⟨v2, cx0, _⟩ := hcut.at_ (g := w.heap.size) (n := 2) (.tail _ (.tail _ (.tail _ (.tail _ (.head _))))) 0 (by omega); obtain ⟨v3, cx1, _⟩ := hcut.at_ (g := w.heap.size) (n := 2) (.tail _ (.tail _ (.tail _ (.tail _ (.head _))))) 1 (by omega)
    have hle := hcut.le
    have HC := Lib.hid hcut
    clear hcut
    go_wp2_with fail
    have A5 : Al w (wc.heap.size + 1) [(wc.heap.size, 4), (bo, 3), (ba, 3), (w.heap.size + 1, 3)] (wc.alloc (.cells #[.int .i64 v0, .int .i64 v1, .int .i64 v2, .int .i64 v3] 26)) :=
      ((HC.out.alloc _).less (fs := [(bo, 3), (ba, 3), (w.heap.size + 1, 3)]) (by intro p hp; simp only [List.mem_cons, List.not_mem_nil, or_false] at hp ⊢; rcases hp with h | h | h <;> simp [h])).more (IB.of4 (Blk.new _ _ _)) (by omega) (by simp) (by omega)
    have H5 := Lib.hid A5
    clear A5 HC ct0 ct1 cx0 cx1
    generalize wc.heap.size + 1 = h1 at *
    generalize wc.heap.size = g1 at *
    go_loopw [65] (fun v wr => AnL w h1 [(g1, 4), (bo, 3), (ba, 3), (w.heap.size + 1, 3)] 2 v wr) (fun v _ => (2 - intOf v).toNat)
    case atStart => exact ⟨0, rfl, by omega, H5.out⟩
    case round =>
      clear H5
      obtain ⟨i, rfl, hi2, hH⟩ := hrel
      by_cases hlt : i < 2
      · have hp : (i : Int) < 2 := by omega
        have hp0 : (0 : Int) ≤ (i : Int) := by omega
        obtain ⟨L, cL, _⟩ := hH.at_ (g := g1) (n := 4) (.head _) (i * 2) (by omega); obtain ⟨A, cA, _⟩ := hH.at_ (g := g1) (n := 4) (.head _) (i * 2 + 1) (by omega)
        have HP1 := Lib.hid hH.bound
        have hle1 := hH.le
        obtain ⟨o0v, co0, _⟩ := hH.at_ (g := bo) (n := 3) (.tail _ (.head _)) 0 (by omega); obtain ⟨o1v, co1, _⟩ := hH.at_ (g := bo) (n := 3) (.tail _ (.head _)) 1 (by omega); obtain ⟨o2v, co2, _⟩ := hH.at_ (g := bo) (n := 3) (.tail _ (.head _)) 2 (by omega); have yo := hH.lt (g := bo) (n := 3) (.tail _ (.head _)); obtain ⟨a0v, ca0, _⟩ := hH.at_ (g := ba) (n := 3) (.tail _ (.tail _ (.head _))) 0 (by omega); obtain ⟨a1v, ca1, _⟩ := hH.at_ (g := ba) (n := 3) (.tail _ (.tail _ (.head _))) 1 (by omega); obtain ⟨a2v, ca2, _⟩ := hH.at_ (g := ba) (n := 3) (.tail _ (.tail _ (.head _))) 2 (by omega); have ya := hH.lt (g := ba) (n := 3) (.tail _ (.tail _ (.head _))); obtain ⟨r0v, cr0, _⟩ := hH.at_ (g := w.heap.size + 1) (n := 3) (.tail _ (.tail _ (.tail _ (.head _)))) 0 (by omega); obtain ⟨r1v, cr1, _⟩ := hH.at_ (g := w.heap.size + 1) (n := 3) (.tail _ (.tail _ (.tail _ (.head _)))) 1 (by omega); obtain ⟨r2v, cr2, _⟩ := hH.at_ (g := w.heap.size + 1) (n := 3) (.tail _ (.tail _ (.tail _ (.head _)))) 2 (by omega); have yr := hH.lt (g := w.heap.size + 1) (n := 3) (.tail _ (.tail _ (.tail _ (.head _))))
        have HA := Lib.hid hH
        clear hH
        go_wp2_with fail
        have A6 : Al w (wr.heap.size + 2) [(wr.heap.size + 1, 12), (wr.heap.size, 2), (g1, 4), (bo, 3), (ba, 3), (w.heap.size + 1, 3)] ((wr.alloc (.cells #[.int .i64 L, .int .i64 A] 26)).alloc (.cells #[.int .i64 a0v, .int .i64 a1v, .int .i64 a2v, .int .i64 o0v, .int .i64 o1v, .int .i64 o2v, .int .i64 r0v, .int .i64 r1v, .int .i64 r2v, .int .i64 36861, .int .i64 1, .int .i64 36861] 29)) :=
          (((HA.out.alloc _).alloc _).more (IB.of2 ((Blk.new wr _ _).alloc _)) (hj := wr.heap.size + 2) (by have := HA.out.le; omega) (by simp) (by omega)).more (IB.of12 (Blk.fresh (by simp))) (Nat.le_refl _) (by simp) (by omega)
        have H6 := Lib.hid A6
        clear A6 HA cL cA co0 co1 co2 yo ca0 ca1 ca2 ya cr0 cr1 cr2 yr
        obtain ⟨h2, hh2⟩ : ∃ n, n = wr.heap.size + 2 := ⟨_, rfl⟩
        have h12 : h1 ≤ h2 := by omega
        rw [← hh2] at H6
        clear hh2 hle1
        generalize wr.heap.size + 1 = g2 at *
        generalize wr.heap.size = gy at *
        go_loopw [75] (fun v wr => AnL w h2 [(g2, 12), (gy, 2), (g1, 4), (bo, 3), (ba, 3), (w.heap.size + 1, 3)] 4 v wr) (fun v _ => (4 - intOf v).toNat)
        case atStart => exact ⟨0, rfl, by omega, H6.out⟩
        case round =>
          clear H6
          obtain ⟨j, rfl, hj4, hH⟩ := hrel
          by_cases hlt2 : j < 4
          · have hq : (j : Int) < 4 := by omega
            have hq0 : (0 : Int) ≤ (j : Int) := by omega
            obtain ⟨K, cz0, _⟩ := hH.at_ (g := g2) (n := 12) (.head _) (j * 3) (by omega); obtain ⟨S, cz1, _⟩ := hH.at_ (g := g2) (n := 12) (.head _) (j * 3 + 1) (by omega); obtain ⟨T, cz2, _⟩ := hH.at_ (g := g2) (n := 12) (.head _) (j * 3 + 2) (by omega)
            obtain ⟨L, cy0, _⟩ := hH.at_ (g := gy) (n := 2) (.tail _ (.head _)) 0 (by omega); obtain ⟨A, cy1, _⟩ := hH.at_ (g := gy) (n := 2) (.tail _ (.head _)) 1 (by omega); have yy := hH.lt (g := gy) (n := 2) (.tail _ (.head _))
            have HP2 := Lib.hid hH.bound
            have hle2 := hH.le
            have HA := Lib.hid hH
            clear hH
            go_wp2_with fail
            have Y0 : (wr.alloc (.cells #[.int .i64 K, .int .i64 S, .int .i64 T] 29)).cell? ⟨gy, 0, none⟩ = some (.int .i64 L) := (HA.out.alloc _).cellOf yy cy0; have Y1 : (wr.alloc (.cells #[.int .i64 K, .int .i64 S, .int .i64 T] 29)).cell? ⟨gy, 1, none⟩ = some (.int .i64 A) := (HA.out.alloc _).cellOf yy cy1
            have BZ := Blk.new wr 29 #[.int .i64 K, .int .i64 S, .int .i64 T]
            have Z0 : (wr.alloc (.cells #[.int .i64 K, .int .i64 S, .int .i64 T] 29)).cell? ⟨wr.heap.size, 0, none⟩ = some (.int .i64 K) := BZ.cell 0; have Z1 : (wr.alloc (.cells #[.int .i64 K, .int .i64 S, .int .i64 T] 29)).cell? ⟨wr.heap.size, 1, none⟩ = some (.int .i64 S) := BZ.cell 1; have Z2 : (wr.alloc (.cells #[.int .i64 K, .int .i64 S, .int .i64 T] 29)).cell? ⟨wr.heap.size, 2, none⟩ = some (.int .i64 T) := BZ.cell 2
            have AZ : Al w (wr.heap.size + 1) [(wr.heap.size, 3), (g2, 12), (gy, 2), (g1, 4), (bo, 3), (ba, 3), (w.heap.size + 1, 3)] (wr.alloc (.cells #[.int .i64 K, .int .i64 S, .int .i64 T] 29)) := (HA.out.alloc _).more (IB.of3 BZ) (by have := HA.out.le; omega) (by simp) (by omega)
            have HZ := Lib.hid AZ
            clear AZ BZ HA cz0 cz1 cz2 cy0 cy1 yy
            obtain ⟨h3, hh3⟩ : ∃ n, n = wr.heap.size + 1 := ⟨_, rfl⟩
            have h23 : h2 ≤ h3 := by omega
            rw [← hh3] at HZ
            clear hh3 hle2
            generalize wr.alloc (.cells #[.int .i64 K, .int .i64 S, .int .i64 T] 29) = wz at *
            generalize wr.heap.size = gz at *
            go_upto_region 18 with fail
            go_cut [101] (fun s101 wx => AnC w gy gz L A K S T h3 [(gz, 3), (g2, 12), (gy, 2), (g1, 4), (bo, 3), (ba, 3), (w.heap.size + 1, 3)] s101 wx)
            case first => as_aux_lemma =>
              obtain ⟨dd, hdd⟩ : ∃ d : Int, (if Good L A K S T then dueI L A K S T else -1) = d := ⟨_, rfl⟩
              have HDD := Lib.hid hdd
              clear hdd
              go_region_held3 (fun w' => w'.cell? ⟨gy, 0, none⟩ = some (.int .i64 L) ∧ w'.cell? ⟨gy, 1, none⟩ = some (.int .i64 A) ∧ w'.cell? ⟨gz, 0, none⟩ = some (.int .i64 K) ∧ w'.cell? ⟨gz, 1, none⟩ = some (.int .i64 S) ∧ w'.cell? ⟨gz, 2, none⟩ = some (.int .i64 T)) (simp [go_sem, *])
                (first
                | (go_at_call 14; refine (pcheck_any L A K S T _).mono ?_; rintro e we0 ⟨rfl, hbe0⟩; have HE0 := Lib.hid (HZ.out.drew.step hbe0); have y0 : we0.cell? ⟨gy, 0, none⟩ = some (.int .i64 L) := bc1 hbe0 Y0; have y1 : we0.cell? ⟨gy, 1, none⟩ = some (.int .i64 A) := bc1 hbe0 Y1; have z0 : we0.cell? ⟨gz, 0, none⟩ = some (.int .i64 K) := bc1 hbe0 Z0; have z1 : we0.cell? ⟨gz, 1, none⟩ = some (.int .i64 S) := bc1 hbe0 Z1; have z2 : we0.cell? ⟨gz, 2, none⟩ = some (.int .i64 T) := bc1 hbe0 Z2)
                | (go_at_call 15; refine (rcheck_any L A K S T _).mono ?_; rintro e we1 ⟨rfl, hbe1⟩; have HE1 := Lib.hid (HE0.out.step hbe1); have y0 : we1.cell? ⟨gy, 0, none⟩ = some (.int .i64 L) := bc1 hbe1 y0; have y1 : we1.cell? ⟨gy, 1, none⟩ = some (.int .i64 A) := bc1 hbe1 y1; have z0 : we1.cell? ⟨gz, 0, none⟩ = some (.int .i64 K) := bc1 hbe1 z0; have z1 : we1.cell? ⟨gz, 1, none⟩ = some (.int .i64 S) := bc1 hbe1 z1; have z2 : we1.cell? ⟨gz, 2, none⟩ = some (.int .i64 T) := bc1 hbe1 z2)
                | (go_at_call 16; refine (pdue_any L A K S T _).mono ?_; rw [HDD.out]; rintro e we2 ⟨rfl, hbe2⟩; have HE2 := Lib.hid (HE1.out.step hbe2); have y0 : we2.cell? ⟨gy, 0, none⟩ = some (.int .i64 L) := bc1 hbe2 y0; have y1 : we2.cell? ⟨gy, 1, none⟩ = some (.int .i64 A) := bc1 hbe2 y1; have z0 : we2.cell? ⟨gz, 0, none⟩ = some (.int .i64 K) := bc1 hbe2 z0; have z1 : we2.cell? ⟨gz, 1, none⟩ = some (.int .i64 S) := bc1 hbe2 z1; have z2 : we2.cell? ⟨gz, 2, none⟩ = some (.int .i64 T) := bc1 hbe2 z2)
                | (go_at_call 17; refine (rdue_any L A K S T _).mono ?_; rw [HDD.out]; rintro e we3 ⟨rfl, hbe3⟩; have HE3 := Lib.hid (HE2.out.step hbe3); have y0 : we3.cell? ⟨gy, 0, none⟩ = some (.int .i64 L) := bc1 hbe3 y0; have y1 : we3.cell? ⟨gy, 1, none⟩ = some (.int .i64 A) := bc1 hbe3 y1; have z0 : we3.cell? ⟨gz, 0, none⟩ = some (.int .i64 K) := bc1 hbe3 z0; have z1 : we3.cell? ⟨gz, 1, none⟩ = some (.int .i64 S) := bc1 hbe3 z1; have z2 : we3.cell? ⟨gz, 2, none⟩ = some (.int .i64 T) := bc1 hbe3 z2)
                | (go_at_call 18; refine (psettled_any K S T _).mono ?_; rintro e we4 ⟨rfl, hbe4⟩; have HE4 := Lib.hid (HE3.out.step hbe4); have y0 : we4.cell? ⟨gy, 0, none⟩ = some (.int .i64 L) := bc1 hbe4 y0; have y1 : we4.cell? ⟨gy, 1, none⟩ = some (.int .i64 A) := bc1 hbe4 y1; have z0 : we4.cell? ⟨gz, 0, none⟩ = some (.int .i64 K) := bc1 hbe4 z0; have z1 : we4.cell? ⟨gz, 1, none⟩ = some (.int .i64 S) := bc1 hbe4 z1; have z2 : we4.cell? ⟨gz, 2, none⟩ = some (.int .i64 T) := bc1 hbe4 z2)
                | (go_at_call 19; refine (rsettled_any K S T _).mono ?_; rintro e we5 ⟨rfl, hbe5⟩; have HE5 := Lib.hid (HE4.out.step hbe5); have y0 : we5.cell? ⟨gy, 0, none⟩ = some (.int .i64 L) := bc1 hbe5 y0; have y1 : we5.cell? ⟨gy, 1, none⟩ = some (.int .i64 A) := bc1 hbe5 y1; have z0 : we5.cell? ⟨gz, 0, none⟩ = some (.int .i64 K) := bc1 hbe5 z0; have z1 : we5.cell? ⟨gz, 1, none⟩ = some (.int .i64 S) := bc1 hbe5 z1; have z2 : we5.cell? ⟨gz, 2, none⟩ = some (.int .i64 T) := bc1 hbe5 z2))
              all_goals (go_wp2_with fail)
              all_goals go_meet
              all_goals (case rel => exact ⟨rfl, HE5.out, y0, y1, z0, z1, z2⟩)
            case rest =>
              clear HZ Y0 Y1 Z0 Z1 Z2
              obtain ⟨rfl, hA, Y0, Y1, Z0, Z1, Z2⟩ := hcut
              have HZ := Lib.hid hA
              clear hA
              go_wp2_with fail
              have ly := World.block_lt_of_cell? wc _ Y0; have lz := World.block_lt_of_cell? wc _ Z0
              go_upto_region 20 with fail
              go_cut [120, 121, 122] (fun s120 s121 s122 wx => AnD w gy gz L A K S T h3 [(gz, 3), (g2, 12), (gy, 2), (g1, 4), (bo, 3), (ba, 3), (w.heap.size + 1, 3)] s120 s121 s122 wx)
              case first => as_aux_lemma =>
                go_region_held3 (fun w' => w'.cell? ⟨gy, 0, none⟩ = some (.int .i64 L) ∧ w'.cell? ⟨gy, 1, none⟩ = some (.int .i64 A) ∧ w'.cell? ⟨gz, 0, none⟩ = some (.int .i64 K) ∧ w'.cell? ⟨gz, 1, none⟩ = some (.int .i64 S) ∧ w'.cell? ⟨gz, 2, none⟩ = some (.int .i64 T)) (simp [go_sem, *])
                  (first | (go_at_call 13; refine (mod_any _ _ _ (by omega) (by omega)).mono ?_; rintro e we ⟨rfl, rfl⟩))
                all_goals (go_wp2_with fail)
                all_goals go_meet
                all_goals (case rel => exact .of HZ.out (Cs.of2 Y0 Y1) (Cs.of3 Z0 Z1 Z2))
              case rest =>
                clear HZ Y0 Y1 Z0 Z1 Z2
                obtain ⟨g3, hg3, rfl, rfl, rfl, hA, hY, hZ⟩ := hcut
                have HA := Lib.hid hA; have HY := Lib.hid hY; have HZ := Lib.hid hZ
                clear hA hY hZ
                go_wp2_with fail
                go_loopw [122] (fun v wr => AnI w gy gz g3 L A K S T [(gz, 3), (g2, 12), (gy, 2), (g1, 4), (bo, 3), (ba, 3), (w.heap.size + 1, 3)] v wr) (fun v _ => (4 - intOf v).toNat)
                case atStart => exact ⟨0, rfl, by omega, HA.out, HY.out, HZ.out⟩
                case round => as_aux_lemma =>
                  clear HA HY HZ
                  obtain ⟨k, rfl, hk4, hA, hY, hZ⟩ := hrel
                  by_cases hlt3 : k < 4
                  · have hr : (k : Int) < 4 := by omega
                    have hr0 : (0 : Int) ≤ (k : Int) := by omega
                    obtain ⟨d, cd, _⟩ := hA.at_ (g := g3) (n := 4) (.head _) k (by omega)
                    have cy0 : wr.cell? ⟨gy, 0, none⟩ = some (.int .i64 L) := hY.cell 0; have cy1 : wr.cell? ⟨gy, 1, none⟩ = some (.int .i64 A) := hY.cell 1; have cz0 : wr.cell? ⟨gz, 0, none⟩ = some (.int .i64 K) := hZ.cell 0; have cz1 : wr.cell? ⟨gz, 1, none⟩ = some (.int .i64 S) := hZ.cell 1; have cz2 : wr.cell? ⟨gz, 2, none⟩ = some (.int .i64 T) := hZ.cell 2
                    have yY := hY.lt; have yZ := hZ.lt; have yA := hA.le; have hzl := (hA.ib (gz, 3) (.tail _ (.head _))).1; have hyl := (hA.ib (gy, 2) (.tail _ (.tail _ (.tail _ (.head _))))).1
                    have HA := Lib.hid hA; have HY := Lib.hid hY; have HZ := Lib.hid hZ
                    clear hA hY hZ
                    obtain ⟨RL, hRL⟩ : ∃ R, moveR L A K S T 1 2 d = R := ⟨_, rfl⟩; have HL := Lib.hid hRL; clear hRL
                    obtain ⟨RD, hRD⟩ : ∃ R, moveR L A K S T 2 (if changed then 4 else 3) d = R := ⟨_, rfl⟩; have HD := Lib.hid hRD; clear hRD
                    obtain ⟨RT, hRT⟩ : ∃ R, tickR L A K S T d = R := ⟨_, rfl⟩; have HT := Lib.hid hRT; clear hRT
                    go_wp2_with fail
                    refine (plodge_any L A K S T d _).mono ?_; rw [HL.out]; rintro e wA ⟨rfl, hbwA⟩; have BAwA : Al w (g3 + 1) ((g3, 4) :: [(gz, 3), (g2, 12), (gy, 2), (g1, 4), (bo, 3), (ba, 3), (w.heap.size + 1, 3)]) wA := HA.out.step hbwA; have BywA : Cs wA (gy) [.int .i64 L, .int .i64 A] := HY.out.below hbwA; have BzwA : Cs wA (gz) [.int .i64 K, .int .i64 S, .int .i64 T] := HZ.out.below hbwA; have lAwA := BAwA.le; have yywA := BywA.lt; have cywA0 : wA.cell? ⟨gy, 0, none⟩ = some (.int .i64 L) := BywA.cell 0; have cywA1 : wA.cell? ⟨gy, 1, none⟩ = some (.int .i64 A) := BywA.cell 1; have yzwA := BzwA.lt; have czwA0 : wA.cell? ⟨gz, 0, none⟩ = some (.int .i64 K) := BzwA.cell 0; have czwA1 : wA.cell? ⟨gz, 1, none⟩ = some (.int .i64 S) := BzwA.cell 1; have czwA2 : wA.cell? ⟨gz, 2, none⟩ = some (.int .i64 T) := BzwA.cell 2; replace BAwA := Lib.hid BAwA; replace BywA := Lib.hid BywA; replace BzwA := Lib.hid BzwA
                    go_wp2_with fail
                    refine (rlodge_any L A K S T d _).mono ?_; rw [HL.out]; rintro e wB ⟨rfl, hbwB⟩; have BAwB : Al w (g3 + 1) ((g3, 4) :: [(gz, 3), (g2, 12), (gy, 2), (g1, 4), (bo, 3), (ba, 3), (w.heap.size + 1, 3)]) wB := (BAwA.out.alloc _).step hbwB; have BywB : Cs wB (gy) [.int .i64 L, .int .i64 A] := (BywA.out.alloc _).below hbwB; have BzwB : Cs wB (gz) [.int .i64 K, .int .i64 S, .int .i64 T] := (BzwA.out.alloc _).below hbwB; have BpwB : Blk wB (wA.heap.size) 29 #[.int .i64 (RL).k, .int .i64 (RL).s, .int .i64 (RL).t] := (Blk.fresh (by simp)).below hbwB; have lAwB := BAwB.le; have yywB := BywB.lt; have cywB0 : wB.cell? ⟨gy, 0, none⟩ = some (.int .i64 L) := BywB.cell 0; have cywB1 : wB.cell? ⟨gy, 1, none⟩ = some (.int .i64 A) := BywB.cell 1; have yzwB := BzwB.lt; have czwB0 : wB.cell? ⟨gz, 0, none⟩ = some (.int .i64 K) := BzwB.cell 0; have czwB1 : wB.cell? ⟨gz, 1, none⟩ = some (.int .i64 S) := BzwB.cell 1; have czwB2 : wB.cell? ⟨gz, 2, none⟩ = some (.int .i64 T) := BzwB.cell 2; have ypwB := BpwB.lt; have cpwB0 : wB.cell? ⟨wA.heap.size, 0, none⟩ = some (.int .i64 (RL).k) := BpwB.cell 0; have fpwB0 : wB.frozen? ⟨wA.heap.size, 0, none⟩ = false := BpwB.free 0; have cpwB1 : wB.cell? ⟨wA.heap.size, 1, none⟩ = some (.int .i64 (RL).s) := BpwB.cell 1; have fpwB1 : wB.frozen? ⟨wA.heap.size, 1, none⟩ = false := BpwB.free 1; have cpwB2 : wB.cell? ⟨wA.heap.size, 2, none⟩ = some (.int .i64 (RL).t) := BpwB.cell 2; have fpwB2 : wB.frozen? ⟨wA.heap.size, 2, none⟩ = false := BpwB.free 2; replace BAwB := Lib.hid BAwB; replace BywB := Lib.hid BywB; replace BzwB := Lib.hid BzwB; replace BpwB := Lib.hid BpwB
                    go_wp2_with fail
                    refine (pdecide_any L A K S T d changed _).mono ?_; rw [HD.out]; rintro e wC ⟨rfl, hbwC⟩; have BAwC : Al w (g3 + 1) ((g3, 4) :: [(gz, 3), (g2, 12), (gy, 2), (g1, 4), (bo, 3), (ba, 3), (w.heap.size + 1, 3)]) wC := (BAwB.out.alloc _).step hbwC; have BywC : Cs wC (gy) [.int .i64 L, .int .i64 A] := (BywB.out.alloc _).below hbwC; have BzwC : Cs wC (gz) [.int .i64 K, .int .i64 S, .int .i64 T] := (BzwB.out.alloc _).below hbwC; have BpwC : Blk wC (wA.heap.size) 29 #[.int .i64 (RL).k, .int .i64 (RL).s, .int .i64 (RL).t] := (BpwB.out.alloc _).below hbwC; have BqwC : Blk wC (wB.heap.size) 29 #[.int .i64 (RL).k, .int .i64 (RL).s, .int .i64 (RL).t] := (Blk.fresh (by simp)).below hbwC; have lAwC := BAwC.le; have yywC := BywC.lt; have cywC0 : wC.cell? ⟨gy, 0, none⟩ = some (.int .i64 L) := BywC.cell 0; have cywC1 : wC.cell? ⟨gy, 1, none⟩ = some (.int .i64 A) := BywC.cell 1; have yzwC := BzwC.lt; have czwC0 : wC.cell? ⟨gz, 0, none⟩ = some (.int .i64 K) := BzwC.cell 0; have czwC1 : wC.cell? ⟨gz, 1, none⟩ = some (.int .i64 S) := BzwC.cell 1; have czwC2 : wC.cell? ⟨gz, 2, none⟩ = some (.int .i64 T) := BzwC.cell 2; have ypwC := BpwC.lt; have cpwC0 : wC.cell? ⟨wA.heap.size, 0, none⟩ = some (.int .i64 (RL).k) := BpwC.cell 0; have fpwC0 : wC.frozen? ⟨wA.heap.size, 0, none⟩ = false := BpwC.free 0; have cpwC1 : wC.cell? ⟨wA.heap.size, 1, none⟩ = some (.int .i64 (RL).s) := BpwC.cell 1; have fpwC1 : wC.frozen? ⟨wA.heap.size, 1, none⟩ = false := BpwC.free 1; have cpwC2 : wC.cell? ⟨wA.heap.size, 2, none⟩ = some (.int .i64 (RL).t) := BpwC.cell 2; have fpwC2 : wC.frozen? ⟨wA.heap.size, 2, none⟩ = false := BpwC.free 2; have yqwC := BqwC.lt; have cqwC0 : wC.cell? ⟨wB.heap.size, 0, none⟩ = some (.int .i64 (RL).k) := BqwC.cell 0; have fqwC0 : wC.frozen? ⟨wB.heap.size, 0, none⟩ = false := BqwC.free 0; have cqwC1 : wC.cell? ⟨wB.heap.size, 1, none⟩ = some (.int .i64 (RL).s) := BqwC.cell 1; have fqwC1 : wC.frozen? ⟨wB.heap.size, 1, none⟩ = false := BqwC.free 1; have cqwC2 : wC.cell? ⟨wB.heap.size, 2, none⟩ = some (.int .i64 (RL).t) := BqwC.cell 2; have fqwC2 : wC.frozen? ⟨wB.heap.size, 2, none⟩ = false := BqwC.free 2; replace BAwC := Lib.hid BAwC; replace BywC := Lib.hid BywC; replace BzwC := Lib.hid BzwC; replace BpwC := Lib.hid BpwC; replace BqwC := Lib.hid BqwC
                    go_wp2_with fail
                    refine (rdecide_any L A K S T d changed _).mono ?_; rw [HD.out]; rintro e wD ⟨rfl, hbwD⟩; have BAwD : Al w (g3 + 1) ((g3, 4) :: [(gz, 3), (g2, 12), (gy, 2), (g1, 4), (bo, 3), (ba, 3), (w.heap.size + 1, 3)]) wD := (((BAwC.out.far (wA.heap.size) 0 (.int .i64 (RD).k) (by omega)).far (wA.heap.size) 1 (.int .i64 (RD).s) (by omega)).far (wA.heap.size) 2 (.int .i64 (RD).t) (by omega)).step hbwD; have BywD : Cs wD (gy) [.int .i64 L, .int .i64 A] := (((BywC.out.far (wA.heap.size) 0 (.int .i64 (RD).k) (by omega)).far (wA.heap.size) 1 (.int .i64 (RD).s) (by omega)).far (wA.heap.size) 2 (.int .i64 (RD).t) (by omega)).below hbwD; have BzwD : Cs wD (gz) [.int .i64 K, .int .i64 S, .int .i64 T] := (((BzwC.out.far (wA.heap.size) 0 (.int .i64 (RD).k) (by omega)).far (wA.heap.size) 1 (.int .i64 (RD).s) (by omega)).far (wA.heap.size) 2 (.int .i64 (RD).t) (by omega)).below hbwD; have BpwD : Blk wD (wA.heap.size) 29 #[.int .i64 (RD).k, .int .i64 (RD).s, .int .i64 (RD).t] := (((BpwC.out.put 0 (.int .i64 (RD).k)).put 1 (.int .i64 (RD).s)).put 2 (.int .i64 (RD).t)).below hbwD; have BqwD : Blk wD (wB.heap.size) 29 #[.int .i64 (RL).k, .int .i64 (RL).s, .int .i64 (RL).t] := (((BqwC.out.far (wA.heap.size) 0 (.int .i64 (RD).k) (by omega)).far (wA.heap.size) 1 (.int .i64 (RD).s) (by omega)).far (wA.heap.size) 2 (.int .i64 (RD).t) (by omega)).below hbwD; have lAwD := BAwD.le; have yywD := BywD.lt; have cywD0 : wD.cell? ⟨gy, 0, none⟩ = some (.int .i64 L) := BywD.cell 0; have cywD1 : wD.cell? ⟨gy, 1, none⟩ = some (.int .i64 A) := BywD.cell 1; have yzwD := BzwD.lt; have czwD0 : wD.cell? ⟨gz, 0, none⟩ = some (.int .i64 K) := BzwD.cell 0; have czwD1 : wD.cell? ⟨gz, 1, none⟩ = some (.int .i64 S) := BzwD.cell 1; have czwD2 : wD.cell? ⟨gz, 2, none⟩ = some (.int .i64 T) := BzwD.cell 2; have ypwD := BpwD.lt; have cpwD0 : wD.cell? ⟨wA.heap.size, 0, none⟩ = some (.int .i64 (RD).k) := BpwD.cell 0; have fpwD0 : wD.frozen? ⟨wA.heap.size, 0, none⟩ = false := BpwD.free 0; have cpwD1 : wD.cell? ⟨wA.heap.size, 1, none⟩ = some (.int .i64 (RD).s) := BpwD.cell 1; have fpwD1 : wD.frozen? ⟨wA.heap.size, 1, none⟩ = false := BpwD.free 1; have cpwD2 : wD.cell? ⟨wA.heap.size, 2, none⟩ = some (.int .i64 (RD).t) := BpwD.cell 2; have fpwD2 : wD.frozen? ⟨wA.heap.size, 2, none⟩ = false := BpwD.free 2; have yqwD := BqwD.lt; have cqwD0 : wD.cell? ⟨wB.heap.size, 0, none⟩ = some (.int .i64 (RL).k) := BqwD.cell 0; have fqwD0 : wD.frozen? ⟨wB.heap.size, 0, none⟩ = false := BqwD.free 0; have cqwD1 : wD.cell? ⟨wB.heap.size, 1, none⟩ = some (.int .i64 (RL).s) := BqwD.cell 1; have fqwD1 : wD.frozen? ⟨wB.heap.size, 1, none⟩ = false := BqwD.free 1; have cqwD2 : wD.cell? ⟨wB.heap.size, 2, none⟩ = some (.int .i64 (RL).t) := BqwD.cell 2; have fqwD2 : wD.frozen? ⟨wB.heap.size, 2, none⟩ = false := BqwD.free 2; replace BAwD := Lib.hid BAwD; replace BywD := Lib.hid BywD; replace BzwD := Lib.hid BzwD; replace BpwD := Lib.hid BpwD; replace BqwD := Lib.hid BqwD
                    go_wp2_with fail
                    refine (ptick_any L A K S T d _).mono ?_; rw [HT.out]; rintro e wE ⟨rfl, hbwE⟩; have BAwE : Al w (g3 + 1) ((g3, 4) :: [(gz, 3), (g2, 12), (gy, 2), (g1, 4), (bo, 3), (ba, 3), (w.heap.size + 1, 3)]) wE := (((BAwD.out.far (wB.heap.size) 0 (.int .i64 (RD).k) (by omega)).far (wB.heap.size) 1 (.int .i64 (RD).s) (by omega)).far (wB.heap.size) 2 (.int .i64 (RD).t) (by omega)).step hbwE; have BywE : Cs wE (gy) [.int .i64 L, .int .i64 A] := (((BywD.out.far (wB.heap.size) 0 (.int .i64 (RD).k) (by omega)).far (wB.heap.size) 1 (.int .i64 (RD).s) (by omega)).far (wB.heap.size) 2 (.int .i64 (RD).t) (by omega)).below hbwE; have BzwE : Cs wE (gz) [.int .i64 K, .int .i64 S, .int .i64 T] := (((BzwD.out.far (wB.heap.size) 0 (.int .i64 (RD).k) (by omega)).far (wB.heap.size) 1 (.int .i64 (RD).s) (by omega)).far (wB.heap.size) 2 (.int .i64 (RD).t) (by omega)).below hbwE; have BpwE : Blk wE (wA.heap.size) 29 #[.int .i64 (RD).k, .int .i64 (RD).s, .int .i64 (RD).t] := (((BpwD.out.far (wB.heap.size) 0 (.int .i64 (RD).k) (by omega)).far (wB.heap.size) 1 (.int .i64 (RD).s) (by omega)).far (wB.heap.size) 2 (.int .i64 (RD).t) (by omega)).below hbwE; have BqwE : Blk wE (wB.heap.size) 29 #[.int .i64 (RD).k, .int .i64 (RD).s, .int .i64 (RD).t] := (((BqwD.out.put 0 (.int .i64 (RD).k)).put 1 (.int .i64 (RD).s)).put 2 (.int .i64 (RD).t)).below hbwE; have lAwE := BAwE.le; have yywE := BywE.lt; have cywE0 : wE.cell? ⟨gy, 0, none⟩ = some (.int .i64 L) := BywE.cell 0; have cywE1 : wE.cell? ⟨gy, 1, none⟩ = some (.int .i64 A) := BywE.cell 1; have yzwE := BzwE.lt; have czwE0 : wE.cell? ⟨gz, 0, none⟩ = some (.int .i64 K) := BzwE.cell 0; have czwE1 : wE.cell? ⟨gz, 1, none⟩ = some (.int .i64 S) := BzwE.cell 1; have czwE2 : wE.cell? ⟨gz, 2, none⟩ = some (.int .i64 T) := BzwE.cell 2; have ypwE := BpwE.lt; have cpwE0 : wE.cell? ⟨wA.heap.size, 0, none⟩ = some (.int .i64 (RD).k) := BpwE.cell 0; have fpwE0 : wE.frozen? ⟨wA.heap.size, 0, none⟩ = false := BpwE.free 0; have cpwE1 : wE.cell? ⟨wA.heap.size, 1, none⟩ = some (.int .i64 (RD).s) := BpwE.cell 1; have fpwE1 : wE.frozen? ⟨wA.heap.size, 1, none⟩ = false := BpwE.free 1; have cpwE2 : wE.cell? ⟨wA.heap.size, 2, none⟩ = some (.int .i64 (RD).t) := BpwE.cell 2; have fpwE2 : wE.frozen? ⟨wA.heap.size, 2, none⟩ = false := BpwE.free 2; have yqwE := BqwE.lt; have cqwE0 : wE.cell? ⟨wB.heap.size, 0, none⟩ = some (.int .i64 (RD).k) := BqwE.cell 0; have fqwE0 : wE.frozen? ⟨wB.heap.size, 0, none⟩ = false := BqwE.free 0; have cqwE1 : wE.cell? ⟨wB.heap.size, 1, none⟩ = some (.int .i64 (RD).s) := BqwE.cell 1; have fqwE1 : wE.frozen? ⟨wB.heap.size, 1, none⟩ = false := BqwE.free 1; have cqwE2 : wE.cell? ⟨wB.heap.size, 2, none⟩ = some (.int .i64 (RD).t) := BqwE.cell 2; have fqwE2 : wE.frozen? ⟨wB.heap.size, 2, none⟩ = false := BqwE.free 2; replace BAwE := Lib.hid BAwE; replace BywE := Lib.hid BywE; replace BzwE := Lib.hid BzwE; replace BpwE := Lib.hid BpwE; replace BqwE := Lib.hid BqwE
                    go_wp2_with fail
                    refine (rtick_any L A K S T d _).mono ?_; rw [HT.out]; rintro e wF ⟨rfl, hbwF⟩; have BAwF : Al w (g3 + 1) ((g3, 4) :: [(gz, 3), (g2, 12), (gy, 2), (g1, 4), (bo, 3), (ba, 3), (w.heap.size + 1, 3)]) wF := (((BAwE.out.far (wA.heap.size) 0 (.int .i64 (RT).k) (by omega)).far (wA.heap.size) 1 (.int .i64 (RT).s) (by omega)).far (wA.heap.size) 2 (.int .i64 (RT).t) (by omega)).step hbwF; have BywF : Cs wF (gy) [.int .i64 L, .int .i64 A] := (((BywE.out.far (wA.heap.size) 0 (.int .i64 (RT).k) (by omega)).far (wA.heap.size) 1 (.int .i64 (RT).s) (by omega)).far (wA.heap.size) 2 (.int .i64 (RT).t) (by omega)).below hbwF; have BzwF : Cs wF (gz) [.int .i64 K, .int .i64 S, .int .i64 T] := (((BzwE.out.far (wA.heap.size) 0 (.int .i64 (RT).k) (by omega)).far (wA.heap.size) 1 (.int .i64 (RT).s) (by omega)).far (wA.heap.size) 2 (.int .i64 (RT).t) (by omega)).below hbwF; have BpwF : Blk wF (wA.heap.size) 29 #[.int .i64 (RT).k, .int .i64 (RT).s, .int .i64 (RT).t] := (((BpwE.out.put 0 (.int .i64 (RT).k)).put 1 (.int .i64 (RT).s)).put 2 (.int .i64 (RT).t)).below hbwF; have BqwF : Blk wF (wB.heap.size) 29 #[.int .i64 (RD).k, .int .i64 (RD).s, .int .i64 (RD).t] := (((BqwE.out.far (wA.heap.size) 0 (.int .i64 (RT).k) (by omega)).far (wA.heap.size) 1 (.int .i64 (RT).s) (by omega)).far (wA.heap.size) 2 (.int .i64 (RT).t) (by omega)).below hbwF; have lAwF := BAwF.le; have yywF := BywF.lt; have cywF0 : wF.cell? ⟨gy, 0, none⟩ = some (.int .i64 L) := BywF.cell 0; have cywF1 : wF.cell? ⟨gy, 1, none⟩ = some (.int .i64 A) := BywF.cell 1; have yzwF := BzwF.lt; have czwF0 : wF.cell? ⟨gz, 0, none⟩ = some (.int .i64 K) := BzwF.cell 0; have czwF1 : wF.cell? ⟨gz, 1, none⟩ = some (.int .i64 S) := BzwF.cell 1; have czwF2 : wF.cell? ⟨gz, 2, none⟩ = some (.int .i64 T) := BzwF.cell 2; have ypwF := BpwF.lt; have cpwF0 : wF.cell? ⟨wA.heap.size, 0, none⟩ = some (.int .i64 (RT).k) := BpwF.cell 0; have fpwF0 : wF.frozen? ⟨wA.heap.size, 0, none⟩ = false := BpwF.free 0; have cpwF1 : wF.cell? ⟨wA.heap.size, 1, none⟩ = some (.int .i64 (RT).s) := BpwF.cell 1; have fpwF1 : wF.frozen? ⟨wA.heap.size, 1, none⟩ = false := BpwF.free 1; have cpwF2 : wF.cell? ⟨wA.heap.size, 2, none⟩ = some (.int .i64 (RT).t) := BpwF.cell 2; have fpwF2 : wF.frozen? ⟨wA.heap.size, 2, none⟩ = false := BpwF.free 2; have yqwF := BqwF.lt; have cqwF0 : wF.cell? ⟨wB.heap.size, 0, none⟩ = some (.int .i64 (RD).k) := BqwF.cell 0; have fqwF0 : wF.frozen? ⟨wB.heap.size, 0, none⟩ = false := BqwF.free 0; have cqwF1 : wF.cell? ⟨wB.heap.size, 1, none⟩ = some (.int .i64 (RD).s) := BqwF.cell 1; have fqwF1 : wF.frozen? ⟨wB.heap.size, 1, none⟩ = false := BqwF.free 1; have cqwF2 : wF.cell? ⟨wB.heap.size, 2, none⟩ = some (.int .i64 (RD).t) := BqwF.cell 2; have fqwF2 : wF.frozen? ⟨wB.heap.size, 2, none⟩ = false := BqwF.free 2; replace BAwF := Lib.hid BAwF; replace BywF := Lib.hid BywF; replace BzwF := Lib.hid BzwF; replace BpwF := Lib.hid BpwF; replace BqwF := Lib.hid BqwF
                    go_wp2_with fail
                    go_roundw
                    case rel => exact ⟨k + 1, by go_num, by omega, (((BAwF.out.far (wB.heap.size) 0 (.int .i64 (RT).k) (by omega)).far (wB.heap.size) 1 (.int .i64 (RT).s) (by omega)).far (wB.heap.size) 2 (.int .i64 (RT).t) (by omega)), (((BywF.out.far (wB.heap.size) 0 (.int .i64 (RT).k) (by omega)).far (wB.heap.size) 1 (.int .i64 (RT).s) (by omega)).far (wB.heap.size) 2 (.int .i64 (RT).t) (by omega)), (((BzwF.out.far (wB.heap.size) 0 (.int .i64 (RT).k) (by omega)).far (wB.heap.size) 1 (.int .i64 (RT).s) (by omega)).far (wB.heap.size) 2 (.int .i64 (RT).t) (by omega))⟩
                    case measure => simp [intOf]; omega
                  · have hk : k = 4 := by omega
                    subst hk
                    have hr : ¬ ((4 : Nat) : Int) < 4 := by omega
                    have HA := Lib.hid hA
                    clear hA hY hZ
                    go_wp2_with fail
                    go_roundw
                    case rel => exact ⟨j + 1, by go_num, by omega, HA.out.lower (fun p hp => .tail _ (.tail _ hp)) HP2.out (by omega)⟩
                    case measure => simp [intOf]; omega
          · have hj : j = 4 := by omega
            subst hj
            have hq : ¬ ((4 : Nat) : Int) < 4 := by omega
            have HA := Lib.hid hH
            have Hn := Lib.hid (hH.lower (fun p hp => .tail _ (.tail _ hp)) HP1.out (by omega) : Al w h1 [(g1, 4), (bo, 3), (ba, 3), (w.heap.size + 1, 3)] wr)
            obtain ⟨L, cy0, _⟩ := hH.at_ (g := gy) (n := 2) (.tail _ (.head _)) 0 (by omega); obtain ⟨A, cy1, _⟩ := hH.at_ (g := gy) (n := 2) (.tail _ (.head _)) 1 (by omega)
            have CY := Lib.hid (Cs.of2 cy0 cy1)
            clear hH
            have ly := World.block_lt_of_cell? wr _ cy0
            go_upto_region 37 with fail
            go_cut [212, 213, 214] (fun s1 s2 s3 wx => AnE w gy L A h1 [(g1, 4), (bo, 3), (ba, 3), (w.heap.size + 1, 3)] s1 s2 s3 wx)
            case first => as_aux_lemma =>
              go_region_held3 (fun w' => w'.cell? ⟨gy, 0, none⟩ = some (.int .i64 L) ∧ w'.cell? ⟨gy, 1, none⟩ = some (.int .i64 A)) (simp [go_sem, *])
                (first | (go_at_call 13; refine (mod_any _ _ _ (by omega) (by omega)).mono ?_; rintro e we ⟨rfl, rfl⟩))
              all_goals (go_wp2_with fail)
              all_goals go_meet
              all_goals (case rel => exact .of Hn.out CY.out)
            case rest =>
              clear HA Hn CY cy0 cy1
              obtain ⟨g3, hg3, rfl, rfl, rfl, hA, hY⟩ := hcut
              have HA := Lib.hid hA; have HY := Lib.hid hY
              clear hA hY
              go_wp2_with fail
              go_loopw [214] (fun v wr => AnK w gy g3 L A [(g1, 4), (bo, 3), (ba, 3), (w.heap.size + 1, 3)] v wr) (fun v _ => (4 - intOf v).toNat)
              case atStart => exact ⟨0, rfl, by omega, HA.out, HY.out⟩
              case round => as_aux_lemma =>
                clear HA HY
                obtain ⟨k, rfl, hk4, hA, hY⟩ := hrel
                by_cases hlt3 : k < 4
                · have hr : (k : Int) < 4 := by omega
                  have hr0 : (0 : Int) ≤ (k : Int) := by omega
                  obtain ⟨d, cd, _⟩ := hA.at_ (g := g3) (n := 4) (.head _) k (by omega)
                  have cy0 : wr.cell? ⟨gy, 0, none⟩ = some (.int .i64 L) := hY.cell 0; have cy1 : wr.cell? ⟨gy, 1, none⟩ = some (.int .i64 A) := hY.cell 1
                  have yY := hY.lt; have yA := hA.le
                  have HA := Lib.hid hA; have HY := Lib.hid hY
                  clear hA hY
                  obtain ⟨RK, hRK⟩ : ∃ R, knownR L A d = R := ⟨_, rfl⟩; have HK := Lib.hid hRK; clear hRK
                  go_wp2_with fail
                  refine (pknown_any L A d _).mono ?_; rw [HK.out]; rintro e wA ⟨rfl, hbwA⟩; have BAwA : Al w (g3 + 1) [(g3, 4), (g1, 4), (bo, 3), (ba, 3), (w.heap.size + 1, 3)] wA := HA.out.step hbwA; have BywA : Cs wA (gy) [.int .i64 L, .int .i64 A] := HY.out.below hbwA; have lAwA := BAwA.le; have yywA := BywA.lt; have cywA0 : wA.cell? ⟨gy, 0, none⟩ = some (.int .i64 L) := BywA.cell 0; have cywA1 : wA.cell? ⟨gy, 1, none⟩ = some (.int .i64 A) := BywA.cell 1; replace BAwA := Lib.hid BAwA; replace BywA := Lib.hid BywA
                  go_wp2_with fail
                  refine (rknown_any L A d _).mono ?_; rw [HK.out]; rintro e wB ⟨rfl, hbwB⟩; have BAwB : Al w (g3 + 1) [(g3, 4), (g1, 4), (bo, 3), (ba, 3), (w.heap.size + 1, 3)] wB := (BAwA.out.alloc _).step hbwB; have BywB : Cs wB (gy) [.int .i64 L, .int .i64 A] := (BywA.out.alloc _).below hbwB; have BpwB : Blk wB (wA.heap.size) 29 #[.int .i64 (RK).k, .int .i64 (RK).s, .int .i64 (RK).t] := (Blk.fresh (by simp)).below hbwB; have lAwB := BAwB.le; have yywB := BywB.lt; have cywB0 : wB.cell? ⟨gy, 0, none⟩ = some (.int .i64 L) := BywB.cell 0; have cywB1 : wB.cell? ⟨gy, 1, none⟩ = some (.int .i64 A) := BywB.cell 1; have ypwB := BpwB.lt; have cpwB0 : wB.cell? ⟨wA.heap.size, 0, none⟩ = some (.int .i64 (RK).k) := BpwB.cell 0; have cpwB1 : wB.cell? ⟨wA.heap.size, 1, none⟩ = some (.int .i64 (RK).s) := BpwB.cell 1; have cpwB2 : wB.cell? ⟨wA.heap.size, 2, none⟩ = some (.int .i64 (RK).t) := BpwB.cell 2; replace BAwB := Lib.hid BAwB; replace BywB := Lib.hid BywB; replace BpwB := Lib.hid BpwB
                  go_wp2_with fail
                  go_roundw
                  case rel => exact ⟨k + 1, by go_num, by omega, (BAwB.out.alloc _), (BywB.out.alloc _)⟩
                  case measure => simp [intOf]; omega
                · have hk : k = 4 := by omega
                  subst hk
                  have hr : ¬ ((4 : Nat) : Int) < 4 := by omega
                  have HA := Lib.hid hA
                  clear hA hY
                  go_wp2_with fail
                  go_roundw
                  case rel => exact ⟨i + 1, by go_num, by omega, HA.out.lower (fun p hp => .tail _ hp) HP1.out (by omega)⟩
                  case measure => simp [intOf]; omega
      · have hi : i = 2 := by omega
        subst hi
        have hp : ¬ ((2 : Nat) : Int) < 2 := by omega
        have HA := Lib.hid hH
        clear hH
        go_wp2_with (go_at_call 11; refine (awake_any _).mono ?_; rintro e wz ⟨rfl, hbz⟩)
        go_ret
        exact ⟨rfl, btr HA.out.below hbz⟩
end Go.Proofs.Ytldhcgihhknmjaa
