/- What is decided of a phase: the program's Decide. -/
import Derived.Test.YtlfcdjgmegfjoaaSseq
import Derived.Test.YtlfcdjgmegfjoaaRound
namespace Go.Proofs.Ytlfcdjgmegfjoaa
open Go.RowKit Go.Shelf
set_option linter.unusedVariables false
attribute [local go_sem] Oper.semAt_some

def mnU (g : Int → Int) (xs : List Int) : Int := xs.foldl (fun a x => min a (g x)) 1000
def mxU (g : Int → Int) (xs : List Int) : Int := xs.foldl (fun a x => max a (g x)) 0
theorem mnU_snoc (g : Int → Int) (xs : List Int) (x : Int) : mnU g (xs ++ [x]) = min (mnU g xs) (g x) := by simp [mnU]
theorem mxU_snoc (g : Int → Int) (xs : List Int) (x : Int) : mxU g (xs ++ [x]) = max (mxU g xs) (g x) := by simp [mxU]
def dec3 (a b : Bool) : Int := if a then 1 else if b then 0 else -1
def dayL (f u : Int) : List Int := upto (fun j : Nat => f + (j : Int)) (u + 1 - f).toNat
def decW (k0 v loL loH hiL hiH : Int) : Int :=
  if k0 = 1 then dec3 (decide (v ≤ hiL)) (decide (v ≤ hiH)) else if k0 = 2 then dec3 (decide (loH ≤ v)) (decide (loL ≤ v))
  else if k0 = 3 then dec3 (decide (v ≤ loL)) (decide (v ≤ loH)) else dec3 (decide (hiH ≤ v)) (decide (hiL ≤ v))
def decP (s : Int) (l : List (Int × Int)) (k0 f u v : Int) : Int :=
  decW k0 v (mnU (lowB s l) (dayL f u)) (mnU (highB s l) (dayL f u)) (mxU (lowB s l) (dayL f u)) (mxU (highB s l) (dayL f u))
def decAny (s : Int) (l : List (Int × Int)) (k0 f u v : Int) : Int := if chkS s l = 0 then if phE k0 f u v = 0 then decP s l k0 f u v else 0 else 0

theorem blk_own {β : Type} (B : Nat) (t : TypeId) (f : β → Array Value) : Own (fun s W => Blk W B t (f s)) := fun s X Y row hs hg hrow =>
  (hg.block B hs.lt (fun e => by obtain ⟨o, ho, hc⟩ := hrow B e.symm; rw [show X.heap[B]? = _ from hs] at ho; cases ho; cases hc)).trans hs
theorem keepB_b {m b1 b2 n : Nat} (h : m ≤ n) (h1 : b1 < n) (h2 : b2 < n) : ∀ (W : World) (l : Nat) (o o' : Obj), n ≤ l → W.heap[l]? = some o → o.isCells = false → o.isWalk = false → KeepB m b1 b2 W (W.putObj l o') :=
  fun W l o o' hl _ _ _ => ⟨by simp [World.putObj], fun k hk => World.putObj_heap_other (by rcases hk with h | h | h <;> omega)⟩
theorem KeepB.alloc {m b1 b2 : Nat} {A B : World} (h : KeepB m b1 b2 A B) (hm : m ≤ B.heap.size) (h1 : b1 < B.heap.size) (h2 : b2 < B.heap.size) (o : Obj) : KeepB m b1 b2 A (B.alloc o) :=
  h.trans (KeepB.below hm h1 h2 ((Below.refl _ B).alloc (Nat.le_refl _) o))
theorem KeepB.put {m b1 b2 : Nat} {A B : World} (h : KeepB m b1 b2 A B) (g o : Nat) (u : Value) (hm : m ≤ g) (h1 : b1 ≠ g) (h2 : b2 ≠ g) : KeepB m b1 b2 A (B.setCell ⟨g, o, none⟩ u) :=
  ⟨by simpa [World.setCell] using h.1, fun k hk => (Below.heap_setCell B ⟨g, o, none⟩ u k (by rcases hk with h | h | h <;> (simp; omega))).trans (h.2 k hk)⟩
theorem ownFrom_size {β : Type} (B n : Nat) : OwnFrom B (fun (_ : β) W => n ≤ W.heap.size) := fun _ _ _ _ hs hg _ => Nat.le_trans hs hg.size
theorem SerB.of {w : World} {a : Option Addr} {l : List (Int × Int)} (h : Ser w a l) : SerB w.heap.size w a l := ⟨h, fun b off e hl => by
  obtain ⟨b', off', e', h1, _⟩ := h 0 hl
  rw [e] at e'; cases e'
  exact World.block_lt_of_cell? _ _ h1⟩

set_option maxHeartbeats 2000000 in
theorem pDecide_bad (s : Int) (a : Option Addr) (len cap : Nat) (l : List (Int × Int)) (w : World) (hS : Ser w a l) (hl : l.length = len) (hcap : len ≤ 9223372036854775807) (k0 f u v : Int) (c : Int) (hc : chkS s l = c) (h : c ≠ 0) :
    Calls Try.prog 23 #[.agg #[.int .i64 s, .slice a len cap], .agg #[.int .i64 k0, .int .i64 f, .int .i64 u, .int .i64 v]] w fun e w' => e = .returned (.int .i64 0) ∧ Below w.heap.size w w' := by
  have SS := Lib.hid hS
  clear hS
  go_enter Try.func23, Try.ntmps23
  go_wp2_with (go_at_call 14; refine (pcheck_any s a len cap l _ ((SS.out.alloc _).alloc _) hl hcap).mono ?_; rw [hc]; rintro e w1 ⟨rfl, hb1⟩)
  all_goals first | (exfalso; omega) | (go_ret; exact ⟨rfl, by (repeat (with_reducible first | (refine bst ?_ _ _ _ (by omega)) | refine bal ?_ _ | refine bdr ?_ | exact Below.refl _ _ | refine btr ?_ hb1))⟩)

set_option maxHeartbeats 2000000 in
theorem pDecide_ph (s : Int) (a : Option Addr) (len cap : Nat) (l : List (Int × Int)) (w : World) (hS : Ser w a l) (hl : l.length = len) (hcap : len ≤ 9223372036854775807) (k0 f u v : Int) (c : Int) (hc : chkS s l = 0) (hp : phE k0 f u v = c) (h : c ≠ 0) :
    Calls Try.prog 23 #[.agg #[.int .i64 s, .slice a len cap], .agg #[.int .i64 k0, .int .i64 f, .int .i64 u, .int .i64 v]] w fun e w' => e = .returned (.int .i64 0) ∧ Below w.heap.size w w' := by
  have SS := Lib.hid hS
  clear hS
  go_enter Try.func23, Try.ntmps23
  go_wp2_with first | (go_at_call 14; refine (pcheck_any s a len cap l _ ((SS.out.alloc _).alloc _) hl hcap).mono ?_; rw [hc]; rintro e w1 ⟨rfl, hb1⟩; have z1 := hb1.size; (try simp at z1); have B3 : Blk w1 (w.heap.size + 1) 27 #[.int .i64 k0, .int .i64 f, .int .i64 u, .int .i64 v] := Blk.below (Blk.fresh (by simp)) hb1; have c0 : w1.cell? ⟨w.heap.size + 1, 0, none⟩ = some (.int .i64 k0) := B3.cell 0; have c1 : w1.cell? ⟨w.heap.size + 1, 1, none⟩ = some (.int .i64 f) := B3.cell 1; have c2 : w1.cell? ⟨w.heap.size + 1, 2, none⟩ = some (.int .i64 u) := B3.cell 2; have c3 : w1.cell? ⟨w.heap.size + 1, 3, none⟩ = some (.int .i64 v) := B3.cell 3) | (go_at_call 18; refine (pphase_any k0 f u v _).mono ?_; rw [hp]; rintro e w2 ⟨rfl, hb2⟩)
  all_goals first | (exfalso; omega) | (go_ret; exact ⟨rfl, by (repeat (with_reducible first | (refine bst ?_ _ _ _ (by omega)) | refine bal ?_ _ | refine bdr ?_ | exact Below.refl _ _ | refine btr ?_ hb2 | refine btr ?_ hb1))⟩)

structure DecR (n0 m Bp Bs : Nat) (W wr : World) (B5 B6 B3 Bx : Nat) (ph : Array Value) (L0 L1 H0 H1 x0 x1 : Int) (k : Nat) : Prop where
  b5 : Blk wr B5 60 #[.int .i64 (if 0 < k then min L0 x0 else L0), .int .i64 (if 1 < k then min L1 x1 else L1)]
  b6 : Blk wr B6 60 #[.int .i64 (if 0 < k then max H0 x0 else H0), .int .i64 (if 1 < k then max H1 x1 else H1)]
  b3 : Blk wr B3 27 ph
  bX : Blk wr Bx 60 #[.int .i64 x0, .int .i64 x1]
  keeps : KeepsFrom n0 W wr
  keepb : KeepB m Bp Bs W wr
  below : Below m W wr
structure DecN (m Bp Bs B5 B6 B3 Bx : Nat) : Prop where
  h5 : m ≤ B5
  h6 : m ≤ B6
  n56 : B5 ≠ B6
  n35 : B3 ≠ B5
  n36 : B3 ≠ B6
  nx5 : Bx ≠ B5
  nx6 : Bx ≠ B6
  np5 : Bp ≠ B5
  np6 : Bp ≠ B6
  ns5 : Bs ≠ B5
  ns6 : Bs ≠ B6
theorem DecR.step0 {n0 m Bp Bs : Nat} {W wr : World} {B5 B6 B3 Bx : Nat} {ph : Array Value} {L0 L1 H0 H1 x0 x1 z5 z6 : Int} (h : DecR n0 m Bp Bs W wr B5 B6 B3 Bx ph L0 L1 H0 H1 x0 x1 0) (n : DecN m Bp Bs B5 B6 B3 Bx) (e5 : z5 = min L0 x0) (e6 : z6 = max H0 x0) :
    DecR n0 m Bp Bs W ((wr.drew.setCell ⟨B5, 0, none⟩ (.int .i64 z5)).setCell ⟨B6, 0, none⟩ (.int .i64 z6)) B5 B6 B3 Bx ph L0 L1 H0 H1 x0 x1 1 := by
  subst e5; subst e6
  exact ⟨(h.b5.drew.put 0 (.int .i64 (min L0 x0))).far B6 0 _ n.n56, (h.b6.drew.far B5 0 _ n.n56.symm).put 0 (.int .i64 (max H0 x0)), (h.b3.drew.far B5 0 _ n.n35).far B6 0 _ n.n36, (h.bX.drew.far B5 0 _ n.nx5).far B6 0 _ n.nx6,
    h.keeps.trans ((((KeepsOthers.drew _).trans (KeepsOthers.setCell _ _ _)).trans (KeepsOthers.setCell _ _ _)).from _),
    KeepB.put (KeepB.put (B := wr.drew) ⟨h.keepb.1, h.keepb.2⟩ B5 0 _ n.h5 n.np5 n.ns5) B6 0 _ n.h6 n.np6 n.ns6,
    ((h.below.drew).setCell (p := ⟨B5, 0, none⟩) n.h5 _).setCell (p := ⟨B6, 0, none⟩) n.h6 _⟩
theorem DecR.step1 {n0 m Bp Bs : Nat} {W wr : World} {B5 B6 B3 Bx : Nat} {ph : Array Value} {L0 L1 H0 H1 x0 x1 z5 z6 : Int} (h : DecR n0 m Bp Bs W wr B5 B6 B3 Bx ph L0 L1 H0 H1 x0 x1 1) (n : DecN m Bp Bs B5 B6 B3 Bx) (e5 : z5 = min L1 x1) (e6 : z6 = max H1 x1) :
    DecR n0 m Bp Bs W ((wr.drew.setCell ⟨B5, 1, none⟩ (.int .i64 z5)).setCell ⟨B6, 1, none⟩ (.int .i64 z6)) B5 B6 B3 Bx ph L0 L1 H0 H1 x0 x1 2 := by
  subst e5; subst e6
  exact ⟨(h.b5.drew.put 1 (.int .i64 (min L1 x1))).far B6 1 _ n.n56, (h.b6.drew.far B5 1 _ n.n56.symm).put 1 (.int .i64 (max H1 x1)), (h.b3.drew.far B5 1 _ n.n35).far B6 1 _ n.n36, (h.bX.drew.far B5 1 _ n.nx5).far B6 1 _ n.nx6,
    h.keeps.trans ((((KeepsOthers.drew _).trans (KeepsOthers.setCell _ _ _)).trans (KeepsOthers.setCell _ _ _)).from _),
    KeepB.put (KeepB.put (B := wr.drew) ⟨h.keepb.1, h.keepb.2⟩ B5 1 _ n.h5 n.np5 n.ns5) B6 1 _ n.h6 n.np6 n.ns6,
    ((h.below.drew).setCell (p := ⟨B5, 1, none⟩) n.h5 _).setCell (p := ⟨B6, 1, none⟩) n.h6 _⟩
theorem phE_ok {k0 f u v : Int} (h : phE k0 f u v = 0) : 1 ≤ k0 ∧ k0 ≤ 4 ∧ 0 ≤ f ∧ f ≤ u ∧ dayOK u ∧ greenOK v := by
  unfold phE at h
  by_cases h1 : k0 < 1 ∨ 4 < k0
  · rw [if_pos h1] at h; cases h
  · rw [if_neg h1] at h
    by_cases h2 : f < 0 ∨ u < f ∨ ¬ dayOK u ∨ ¬ greenOK v
    · rw [if_pos h2] at h; cases h
    · refine ⟨by omega, by omega, ?_, ?_, ?_, ?_⟩
      · exact Int.not_lt.1 fun h => h2 (.inl h)
      · exact Int.not_lt.1 fun h => h2 (.inr (.inl h))
      · exact Classical.byContradiction fun h => h2 (.inr (.inr (.inl h)))
      · exact Classical.byContradiction fun h => h2 (.inr (.inr (.inr h)))
set_option maxRecDepth 100000 in
set_option maxHeartbeats 4000000 in
theorem pDecide_ok (s : Int) (a : Option Addr) (len cap : Nat) (l : List (Int × Int)) (w : World) (hS : Ser w a l) (hl : l.length = len) (hcap : len ≤ 9223372036854775807) (k0 f u v : Int) (hc : chkS s l = 0) (hp : phE k0 f u v = 0) :
    Calls Try.prog 23 #[.agg #[.int .i64 s, .slice a len cap], .agg #[.int .i64 k0, .int .i64 f, .int .i64 u, .int .i64 v]] w fun e w' => e = .returned (.int .i64 (decP s l k0 f u v)) ∧ Below w.heap.size w w' := by
  have SS := Lib.hid hS
  have HC := Lib.hid hc
  clear hS hc
  refine (callsIn_wide (n := 3)).1 ?_
  refine callsIn_of_wp_marks Try.func23 rfl trivial ?_ rfl
  simp only [Try.ntmps23, List.size_toArray, List.length_cons, List.length_nil, Nat.reduceAdd, Nat.reduceSub, Array.replicate_succ, Array.replicate_zero, List.push_toArray, List.append_toArray, List.nil_append, List.cons_append]
  gi_wp2_with first | (refine ⟨trivial, ?_⟩; gi_at_call 14; refine (callsIn_wide.2 (pcheck_any s a len cap l _ ((SS.out.alloc _).alloc _) hl hcap)).mono ?_; rw [HC.out]; rintro e w1 ⟨rfl, hb1⟩; have z1 := hb1.size; (try simp at z1); have B2 : Blk w1 w.heap.size 25 #[.int .i64 s, .slice a len cap] := Blk.below (Blk.alloc (Blk.fresh rfl) _) hb1; have B3 : Blk w1 (w.heap.size + 1) 27 #[.int .i64 k0, .int .i64 f, .int .i64 u, .int .i64 v] := Blk.below (Blk.fresh (by simp)) hb1; have c0 : w1.cell? ⟨w.heap.size + 1, 0, none⟩ = some (.int .i64 k0) := B3.cell 0; have c1 : w1.cell? ⟨w.heap.size + 1, 1, none⟩ = some (.int .i64 f) := B3.cell 1; have c2 : w1.cell? ⟨w.heap.size + 1, 2, none⟩ = some (.int .i64 u) := B3.cell 2; have c3 : w1.cell? ⟨w.heap.size + 1, 3, none⟩ = some (.int .i64 v) := B3.cell 3) | (refine ⟨trivial, ?_⟩; gi_at_call 18; refine (callsIn_wide.2 (pphase_any k0 f u v _)).mono ?_; rw [hp]; rintro e w2 ⟨rfl, hb2⟩; have z2 := hb2.size; replace B2 := B2.below hb2; replace B3 := B3.below hb2; have y2 := B2.lt; have y3 := B3.lt; clear c0 c1 c2 c3; have c0 : w2.cell? ⟨w.heap.size + 1, 0, none⟩ = some (.int .i64 k0) := B3.cell 0; have c1 : w2.cell? ⟨w.heap.size + 1, 1, none⟩ = some (.int .i64 f) := B3.cell 1; have c2 : w2.cell? ⟨w.heap.size + 1, 2, none⟩ = some (.int .i64 u) := B3.cell 2; have c3 : w2.cell? ⟨w.heap.size + 1, 3, none⟩ = some (.int .i64 v) := B3.cell 3; have d0 : w2.cell? ⟨w.heap.size, 0, none⟩ = some (.int .i64 s) := B2.cell 0; have d1 : w2.cell? ⟨w.heap.size, 1, none⟩ = some (.slice a len cap) := B2.cell 1) | (refine ⟨trivial, ?_⟩; gi_at_call 37; refine (days_in Fence.wide _ trivial rfl s a len cap k0 f u v _).mono ?_; rintro e w3 ⟨rfl, rfl⟩)
  obtain ⟨hk1, hk4, hf0, hfu, hu, hv⟩ := phE_ok hp
  have b5 := (((Blk.fresh (w := w2) (t := 60) (cs := #[.int .i64 1000, .int .i64 1000]) rfl).alloc (.cells #[.int .i64 0, .int .i64 0] 60)).alloc (.cells #[.int .i64 s, .slice a len cap] 25)).alloc (.cells #[.int .i64 k0, .int .i64 f, .int .i64 u, .int .i64 v] 27)
  have b6 := ((Blk.fresh (w := w2.alloc (.cells #[.int .i64 1000, .int .i64 1000] 60)) (g := w2.heap.size + 1) (t := 60) (cs := #[.int .i64 0, .int .i64 0]) (by simp)).alloc (.cells #[.int .i64 s, .slice a len cap] 25)).alloc (.cells #[.int .i64 k0, .int .i64 f, .int .i64 u, .int .i64 v] 27)
  have bs := (Blk.fresh (w := (w2.alloc (.cells #[.int .i64 1000, .int .i64 1000] 60)).alloc (.cells #[.int .i64 0, .int .i64 0] 60)) (g := w2.heap.size + 1 + 1) (t := 25) (cs := #[.int .i64 s, .slice a len cap]) (by simp)).alloc (.cells #[.int .i64 k0, .int .i64 f, .int .i64 u, .int .i64 v] 27)
  have bp := Blk.fresh (w := ((w2.alloc (.cells #[.int .i64 1000, .int .i64 1000] 60)).alloc (.cells #[.int .i64 0, .int .i64 0] 60)).alloc (.cells #[.int .i64 s, .slice a len cap] 25)) (g := w2.heap.size + 1 + 1 + 1) (t := 27) (cs := #[.int .i64 k0, .int .i64 f, .int .i64 u, .int .i64 v]) (by simp)
  have b3 := (((B3.alloc (.cells #[.int .i64 1000, .int .i64 1000] 60)).alloc (.cells #[.int .i64 0, .int .i64 0] 60)).alloc (.cells #[.int .i64 s, .slice a len cap] 25)).alloc (.cells #[.int .i64 k0, .int .i64 f, .int .i64 u, .int .i64 v] 27)
  have hB0 : Below w.heap.size w ((((w2.alloc (.cells #[.int .i64 1000, .int .i64 1000] 60)).alloc (.cells #[.int .i64 0, .int .i64 0] 60)).alloc (.cells #[.int .i64 s, .slice a len cap] 25)).alloc (.cells #[.int .i64 k0, .int .i64 f, .int .i64 u, .int .i64 v] 27)) := bal (bal (bal (bal (btr (btr (bal (bal (Below.refl _ _) _) _) hb1) hb2) _) _) _) _
  have hsz : ((((w2.alloc (.cells #[.int .i64 1000, .int .i64 1000] 60)).alloc (.cells #[.int .i64 0, .int .i64 0] 60)).alloc (.cells #[.int .i64 s, .slice a len cap] 25)).alloc (.cells #[.int .i64 k0, .int .i64 f, .int .i64 u, .int .i64 v] 27)).heap.size = w2.heap.size + 4 := by simp
  obtain ⟨W0, hW0⟩ : ∃ W0, (((w2.alloc (.cells #[.int .i64 1000, .int .i64 1000] 60)).alloc (.cells #[.int .i64 0, .int .i64 0] 60)).alloc (.cells #[.int .i64 s, .slice a len cap] 25)).alloc (.cells #[.int .i64 k0, .int .i64 f, .int .i64 u, .int .i64 v] 27) = W0 := ⟨_, rfl⟩
  rw [hW0] at b5 b6 bs bp b3 hB0 hsz ⊢
  clear hW0 c0 c1 c2 c3 d0 d1 B2 B3
  refine wpIn_rangeFunc_ownH rfl (by omega) (gf := 40) (lb := #[.pointer (some ⟨w2.heap.size + 1 + 1 + 1, 0, none⟩), .pointer (some ⟨w2.heap.size + 1 + 1, 0, none⟩)]) rfl trivial (enters_of Try.func40 (by kernel_rfl) rfl)
    (days_stops 2 (by omega) (w2.heap.size + 1 + 1 + 1) (w2.heap.size + 1 + 1) w.heap.size s a len cap l hl HC.out k0 f u v hf0 hfu hu W0 (by omega) bp bs ⟨SS.out.below hB0, (SerB.of SS.out).2⟩)
    KeepB.trans (keepB_b (by omega) (by omega) (by omega)) (Below.refl _ _) (fun _ => rfl)
    (fun pre W => (((Blk W w2.heap.size 60 #[.int .i64 (mnU (lowB s l) pre), .int .i64 (mnU (highB s l) pre)] ∧ Blk W (w2.heap.size + 1) 60 #[.int .i64 (mxU (lowB s l) pre), .int .i64 (mxU (highB s l) pre)]) ∧ Blk W (w.heap.size + 1) 27 #[.int .i64 k0, .int .i64 f, .int .i64 u, .int .i64 v]) ∧ Below w.heap.size w W) ∧ W0.heap.size ≤ W.heap.size)
    (fun _ _ _ => False)
    (OwnFrom.and (OwnFrom.and (OwnFrom.and (OwnFrom.and (Own.from (blk_own _ _ _) _) (Own.from (blk_own _ _ _) _)) (Own.from (blk_own _ _ _) _)) (ownFrom_below (Nat.le_refl _) (by omega))) (ownFrom_size _ _))
    (fun _ _ _ _ _ hs _ _ => hs)
    ⟨⟨⟨⟨b5, b6⟩, b3⟩, hB0⟩, Nat.le_refl _⟩
    (fun x a' W => ∃ Bx, W0.heap.size ≤ Bx ∧ Blk W Bx 60 #[.int .i64 (lowB s l x), .int .i64 (highB s l x)] ∧ a' = { tmps := #[.agg #[.int .i64 s, .slice a len cap], .agg #[.int .i64 k0, .int .i64 f, .int .i64 u, .int .i64 v], .pointer (some ⟨w.heap.size, 0, none⟩), .pointer (some ⟨w.heap.size + 1, 0, none⟩), .int .i64 0, .pointer (some ⟨w2.heap.size, 0, none⟩), .pointer (some ⟨w2.heap.size + 1, 0, none⟩), undef, .pointer (some ⟨Bx, 0, none⟩), undef, .agg #[.int .i64 s, .slice a len cap], .int .i64 0, .bool false, .bool false, .agg #[.int .i64 k0, .int .i64 f, .int .i64 u, .int .i64 v], .int .i64 0, .bool false, .bool false, .agg #[.int .i64 1000, .int .i64 1000], .agg #[.int .i64 0, .int .i64 0], .agg #[.int .i64 s, .slice a len cap], .agg #[.int .i64 k0, .int .i64 f, .int .i64 u, .int .i64 v], .func (.func 40) #[] #[.pointer (some ⟨w2.heap.size + 1 + 1 + 1, 0, none⟩), .pointer (some ⟨w2.heap.size + 1 + 1, 0, none⟩)], .int .i64 x, .agg #[.int .i64 (lowB s l x), .int .i64 (highB s l x)], undef, undef, undef, undef, undef, undef, undef, undef, undef, undef, undef, undef, undef, undef, undef, undef, undef, undef, undef, undef, undef, undef, undef, undef, undef, undef, undef, undef, undef, undef, undef, undef, undef, undef, undef, undef, undef, undef, undef, undef, undef, undef, undef, undef, undef, undef, undef, undef, undef, undef, undef, undef, undef, undef, undef, undef, undef, undef, undef, undef, undef, undef, undef, undef, undef, undef, undef, undef, undef, undef, undef, undef, undef, undef], defers := [] })
    (fun x a' _ X Y row hs hg hr => by obtain ⟨Bx, h1, h2, h3⟩ := hs; exact ⟨Bx, h1, blk_own Bx 60 (fun (_ : Unit) => #[.int .i64 (lowB s l x), .int .i64 (highB s l x)]) () X Y row h2 hg (fun r e => (hr r e).2), h3⟩)
    ?assign ?body ?done ?stop
  case assign =>
    rintro L pre x W K ⟨⟨⟨⟨b51, b61⟩, b31⟩, hB1⟩, hs1⟩ hK
    simp only [dayEnc]
    gi_wp2
    exact hK _ _ ((KeepsOthers.alloc _ _).from _) (KeepB.below (by omega) (by omega) (by omega) ((Below.refl _ W).alloc (Nat.le_refl _) _)) ⟨⟨⟨⟨b51.alloc _, b61.alloc _⟩, b31.alloc _⟩, bal hB1 _⟩, by simp; omega⟩ ⟨W.heap.size, hs1, Blk.fresh rfl, rfl⟩
  case body =>
    rintro L pre x a' W hL ⟨r, hr⟩ ⟨⟨⟨⟨b51, b61⟩, b31⟩, hB1⟩, hs1⟩ ⟨Bx, hBx, bX, rfl⟩ hlt
    have hB1' := Lib.hid hB1
    have NN : RowKit.Hid (DecN w.heap.size (w2.heap.size + 1 + 1 + 1) (w2.heap.size + 1 + 1) w2.heap.size (w2.heap.size + 1) (w.heap.size + 1) Bx) := Lib.hid ⟨by omega, by omega, by omega, by omega, by omega, by omega, by omega, by omega, by omega, by omega, by omega⟩
    have n5 : w2.heap.size ≠ Bx := by omega
    have n6 : w2.heap.size + 1 ≠ Bx := by omega
    have h51 := Lib.hid b51; have h61 := Lib.hid b61; have h31 := Lib.hid b31; have hX := Lib.hid bX
    clear hB1 b51 b61 b31 bX
    obtain ⟨L0, hL0⟩ : ∃ z, mnU (lowB s l) pre = z := ⟨_, rfl⟩
    obtain ⟨L1, hL1⟩ : ∃ z, mnU (highB s l) pre = z := ⟨_, rfl⟩
    obtain ⟨H0, hH0⟩ : ∃ z, mxU (lowB s l) pre = z := ⟨_, rfl⟩
    obtain ⟨H1, hH1⟩ : ∃ z, mxU (highB s l) pre = z := ⟨_, rfl⟩
    obtain ⟨x0, hx0⟩ : ∃ z, lowB s l x = z := ⟨_, rfl⟩
    obtain ⟨x1, hx1⟩ : ∃ z, highB s l x = z := ⟨_, rfl⟩
    simp only [hL0, hL1, hH0, hH1, hx0, hx1] at h51 h61 hX ⊢
    gi_wp2
    gi_loopw [25] (fun i wr => ∃ k : Nat, k ≤ 2 ∧ i = .int .i64 k ∧ DecR W0.heap.size w.heap.size (w2.heap.size + 1 + 1 + 1) (w2.heap.size + 1 + 1) W wr w2.heap.size (w2.heap.size + 1) (w.heap.size + 1) Bx #[.int .i64 k0, .int .i64 f, .int .i64 u, .int .i64 v] L0 L1 H0 H1 x0 x1 k)
      (fun i _ => (2 - intOf i).toNat)
    case atStart => exact ⟨0, by omega, rfl, ⟨h51.out, h61.out, h31.out, hX.out, KeepsFrom.refl _ _, KeepB.refl _, Below.refl _ _⟩⟩
    case round =>
      obtain ⟨k, hk, rfl, hR⟩ := hrel
      obtain rfl | rfl | rfl : k = 0 ∨ k = 1 ∨ k = 2 := by omega
      · have q5 : wr.cell? ⟨w2.heap.size, 0, none⟩ = some (.int .i64 L0) := hR.b5.cell 0
        have g5 : wr.frozen? ⟨w2.heap.size, 0, none⟩ = false := hR.b5.free 0
        have q6 : wr.cell? ⟨w2.heap.size + 1, 0, none⟩ = some (.int .i64 H0) := hR.b6.cell 0
        have g6 : wr.frozen? ⟨w2.heap.size + 1, 0, none⟩ = false := hR.b6.free 0
        have qX : wr.cell? ⟨Bx, 0, none⟩ = some (.int .i64 x0) := hR.bX.cell 0
        have y5 := hR.b5.lt; have y6 := hR.b6.lt; have yX := hR.bX.lt
        have HR := Lib.hid hR
        clear hR h51 h61 h31 hX hB1'
        gi_wp2
        refine wpIn_region_round (S := fun W => W.cell? ⟨Bx, 0, none⟩ = some (.int .i64 x0)) (by kernel_rfl) (by rfl) (by simpa using qX) (fun hHeld => ?_)
        (refine takeT (i := 0) (d := 28) (v := ?_) rfl rfl (by kernel_rfl) (by kernel_rfl) (by kernel_rfl) (Or.inl ⟨by rfl, ?_⟩) (by assumption) ?_; rotate_left; focus ((intro w hSw; (try dsimp only at hSw); go_simp) <;> with_reducible rfl)); (try simp only [Act.put, List.setIfInBounds_toArray, List.set_cons_zero, List.set_cons_succ])
        (refine takeT (i := 1) (d := 29) (v := ?_) rfl rfl (by kernel_rfl) (by kernel_rfl) (by kernel_rfl) (Or.inl ⟨by rfl, ?_⟩) (by assumption) ?_; rotate_left; focus ((intro w hSw; (try dsimp only at hSw); go_simp) <;> with_reducible rfl)); (try simp only [Act.put, List.setIfInBounds_toArray, List.set_cons_zero, List.set_cons_succ])
        (refine takeT (i := 2) (d := 30) (v := ?_) rfl rfl (by kernel_rfl) (by kernel_rfl) (by kernel_rfl) (Or.inl ⟨by rfl, ?_⟩) (by assumption) ?_; rotate_left; focus ((intro w hSw; (try dsimp only at hSw); go_simp) <;> with_reducible rfl)); (try simp only [Act.put, List.setIfInBounds_toArray, List.set_cons_zero, List.set_cons_succ])
        (refine takeT (i := 3) (d := 31) (v := ?_) rfl rfl (by kernel_rfl) (by kernel_rfl) (by kernel_rfl) (Or.inl ⟨by rfl, ?_⟩) (by assumption) ?_; rotate_left; focus ((intro w hSw; (try dsimp only at hSw); go_simp) <;> with_reducible rfl)); (try simp only [Act.put, List.setIfInBounds_toArray, List.set_cons_zero, List.set_cons_succ])
        (refine takeT (i := 5) (d := 33) (v := ?_) rfl rfl (by kernel_rfl) (by kernel_rfl) (by kernel_rfl) (Or.inl ⟨by rfl, ?_⟩) (by assumption) ?_; rotate_left; focus ((intro w hSw; (try dsimp only at hSw); go_simp) <;> with_reducible rfl)); (try simp only [Act.put, List.setIfInBounds_toArray, List.set_cons_zero, List.set_cons_succ])
        (refine takeT (i := 6) (d := 34) (v := ?_) rfl rfl (by kernel_rfl) (by kernel_rfl) (by kernel_rfl) (Or.inl ⟨by rfl, ?_⟩) (by assumption) ?_; rotate_left; focus ((intro w hSw; (try dsimp only at hSw); go_simp) <;> with_reducible rfl)); (try simp only [Act.put, List.setIfInBounds_toArray, List.set_cons_zero, List.set_cons_succ])
        (refine takeT (i := 7) (d := 35) (v := ?_) rfl rfl (by kernel_rfl) (by kernel_rfl) (by kernel_rfl) (Or.inl ⟨by rfl, ?_⟩) (by assumption) ?_; rotate_left; focus ((intro w hSw; (try dsimp only at hSw); go_simp) <;> with_reducible rfl)); (try simp only [Act.put, List.setIfInBounds_toArray, List.set_cons_zero, List.set_cons_succ])
        (refine takeT (i := 9) (d := 37) (v := ?_) rfl rfl (by kernel_rfl) (by kernel_rfl) (by kernel_rfl) (Or.inl ⟨by rfl, ?_⟩) (by assumption) ?_; rotate_left; focus ((intro w hSw; (try dsimp only at hSw); go_simp) <;> with_reducible rfl)); (try simp only [Act.put, List.setIfInBounds_toArray, List.set_cons_zero, List.set_cons_succ])
        (refine takeT (i := 10) (d := 38) (v := ?_) rfl rfl (by kernel_rfl) (by kernel_rfl) (by kernel_rfl) (Or.inl ⟨by rfl, ?_⟩) (by assumption) ?_; rotate_left; focus ((intro w hSw; (try dsimp only at hSw); go_simp) <;> with_reducible rfl)); (try simp only [Act.put, List.setIfInBounds_toArray, List.set_cons_zero, List.set_cons_succ])
        (refine takeT (i := 12) (d := 40) (v := ?_) rfl rfl (by kernel_rfl) (by kernel_rfl) (by kernel_rfl) (Or.inl ⟨by rfl, ?_⟩) (by assumption) ?_; rotate_left; focus ((intro w hSw; (try dsimp only at hSw); go_simp) <;> with_reducible rfl)); (try simp only [Act.put, List.setIfInBounds_toArray, List.set_cons_zero, List.set_cons_succ])
        (refine takeT (i := 13) (d := 41) (v := ?_) rfl rfl (by kernel_rfl) (by kernel_rfl) (by kernel_rfl) (Or.inl ⟨by rfl, ?_⟩) (by assumption) ?_; rotate_left; focus ((intro w hSw; (try dsimp only at hSw); go_simp) <;> with_reducible rfl)); (try simp only [Act.put, List.setIfInBounds_toArray, List.set_cons_zero, List.set_cons_succ])
        (refine takeT (i := 14) (d := 42) (v := ?_) rfl rfl (by kernel_rfl) (by kernel_rfl) (by kernel_rfl) (Or.inl ⟨by rfl, ?_⟩) (by assumption) ?_; rotate_left; focus ((intro w hSw; (try dsimp only at hSw); go_simp) <;> with_reducible rfl)); (try simp only [Act.put, List.setIfInBounds_toArray, List.set_cons_zero, List.set_cons_succ])
        refine wpAnyH_ready (rs := [4, 11]) (by kernel_rfl) (by simp) ?_
        refine AllReadyH.cons rfl (fun K hK => ?_) ?_
        · go_simp
          refine hK.out _ _ ?_ (fun hHeld => ?_)
          · simp [*, World.cell?_setCell_far]
          clear hK K; (try simp only [Act.put, List.setIfInBounds_toArray, List.set_cons_zero, List.set_cons_succ])
          (refine takeT (i := 8) (d := 36) (v := ?_) rfl rfl (by kernel_rfl) (by kernel_rfl) (by kernel_rfl) (Or.inl ⟨by rfl, ?_⟩) (by assumption) ?_; rotate_left; focus ((intro w hSw; (try dsimp only at hSw); go_simp) <;> with_reducible rfl)); (try simp only [Act.put, List.setIfInBounds_toArray, List.set_cons_zero, List.set_cons_succ])
          (refine takeT (i := 16) (d := 44) (v := ?_) rfl rfl (by kernel_rfl) (by kernel_rfl) (by kernel_rfl) (Or.inl ⟨by rfl, ?_⟩) (by assumption) ?_; rotate_left; focus ((intro w hSw; (try dsimp only at hSw); go_simp) <;> with_reducible rfl)); (try simp only [Act.put, List.setIfInBounds_toArray, List.set_cons_zero, List.set_cons_succ])
          refine wpAnyH_ready (rs := [11, 17]) (by kernel_rfl) (by simp) ?_
          refine AllReadyH.cons rfl (fun K hK => ?_) ?_
          · go_simp
            refine hK.out _ _ ?_ (fun hHeld => ?_)
            · simp [*, World.cell?_setCell_far]
            clear hK K; (try simp only [Act.put, List.setIfInBounds_toArray, List.set_cons_zero, List.set_cons_succ])
            (refine takeT (i := 15) (d := 43) (v := ?_) rfl rfl (by kernel_rfl) (by kernel_rfl) (by kernel_rfl) (Or.inl ⟨by rfl, ?_⟩) (by assumption) ?_; rotate_left; focus ((intro w hSw; (try dsimp only at hSw); go_simp) <;> with_reducible rfl)); (try simp only [Act.put, List.setIfInBounds_toArray, List.set_cons_zero, List.set_cons_succ])
            refine wpAnyH_ready (rs := [17]) (by kernel_rfl) (by simp) ?_
            refine AllReadyH.cons rfl (fun K hK => ?_) ?_
            · go_simp
              refine hK.out _ _ ?_ (fun hHeld => ?_)
              · simp [*, World.cell?_setCell_far]
              clear hK K; (try simp only [Act.put, List.setIfInBounds_toArray, List.set_cons_zero, List.set_cons_succ])
              (refine takeT (i := 18) (d := 45) (v := ?_) rfl rfl (by kernel_rfl) (by kernel_rfl) (by kernel_rfl) (Or.inl ⟨by rfl, ?_⟩) (by assumption) ?_; rotate_left; focus ((intro w hSw; (try dsimp only at hSw); go_simp) <;> with_reducible rfl)); (try simp only [Act.put, List.setIfInBounds_toArray, List.set_cons_zero, List.set_cons_succ])
              refine wpAnyH_ready (rs := [19]) (by kernel_rfl) (by simp) ?_
              refine AllReadyH.cons rfl (fun K hK => ?_) ?_
              · go_simp
                refine hK.out _ _ ?_ (fun hHeld => ?_)
                · simp [*, World.cell?_setCell_far]
                clear hK K; (try simp only [Act.put, List.setIfInBounds_toArray, List.set_cons_zero, List.set_cons_succ])
                refine wpAnyH_done (by kernel_rfl) ?_ _
                refine ⟨rfl, ?_⟩
                gi_wp2
                go_roundw
                case rel => exact ⟨1, by omega, rfl, HR.out.step0 NN.out (by omega) (by omega)⟩
                case measure => simp [intOf]
              exact AllReadyH.nil
            exact AllReadyH.nil
          refine AllReadyH.cons rfl (fun K hK => ?_) ?_
          · go_simp
            refine hK.out _ _ ?_ (fun hHeld => ?_)
            · simp [*, World.cell?_setCell_far]
            clear hK K; (try simp only [Act.put, List.setIfInBounds_toArray, List.set_cons_zero, List.set_cons_succ])
            refine wpAnyH_ready (rs := [11]) (by kernel_rfl) (by simp) ?_
            refine AllReadyH.cons rfl (fun K hK => ?_) ?_
            · go_simp
              refine hK.out _ _ ?_ (fun hHeld => ?_)
              · simp [*, World.cell?_setCell_far]
              clear hK K; (try simp only [Act.put, List.setIfInBounds_toArray, List.set_cons_zero, List.set_cons_succ])
              (refine takeT (i := 15) (d := 43) (v := ?_) rfl rfl (by kernel_rfl) (by kernel_rfl) (by kernel_rfl) (Or.inl ⟨by rfl, ?_⟩) (by assumption) ?_; rotate_left; focus ((intro w hSw; (try dsimp only at hSw); go_simp) <;> with_reducible rfl)); (try simp only [Act.put, List.setIfInBounds_toArray, List.set_cons_zero, List.set_cons_succ])
              (refine takeT (i := 18) (d := 45) (v := ?_) rfl rfl (by kernel_rfl) (by kernel_rfl) (by kernel_rfl) (Or.inl ⟨by rfl, ?_⟩) (by assumption) ?_; rotate_left; focus ((intro w hSw; (try dsimp only at hSw); go_simp) <;> with_reducible rfl)); (try simp only [Act.put, List.setIfInBounds_toArray, List.set_cons_zero, List.set_cons_succ])
              refine wpAnyH_ready (rs := [19]) (by kernel_rfl) (by simp) ?_
              refine AllReadyH.cons rfl (fun K hK => ?_) ?_
              · go_simp
                refine hK.out _ _ ?_ (fun hHeld => ?_)
                · simp [*, World.cell?_setCell_far]
                clear hK K; (try simp only [Act.put, List.setIfInBounds_toArray, List.set_cons_zero, List.set_cons_succ])
                refine wpAnyH_done (by kernel_rfl) ?_ _
                refine ⟨rfl, ?_⟩
                gi_wp2
                go_roundw
                case rel => exact ⟨1, by omega, rfl, HR.out.step0 NN.out (by omega) (by omega)⟩
                case measure => simp [intOf]
              exact AllReadyH.nil
            exact AllReadyH.nil
          exact AllReadyH.nil
        refine AllReadyH.cons rfl (fun K hK => ?_) ?_
        · go_simp
          refine hK.out _ _ ?_ (fun hHeld => ?_)
          · simp [*, World.cell?_setCell_far]
          clear hK K; (try simp only [Act.put, List.setIfInBounds_toArray, List.set_cons_zero, List.set_cons_succ])
          (refine takeT (i := 15) (d := 43) (v := ?_) rfl rfl (by kernel_rfl) (by kernel_rfl) (by kernel_rfl) (Or.inl ⟨by rfl, ?_⟩) (by assumption) ?_; rotate_left; focus ((intro w hSw; (try dsimp only at hSw); go_simp) <;> with_reducible rfl)); (try simp only [Act.put, List.setIfInBounds_toArray, List.set_cons_zero, List.set_cons_succ])
          refine wpAnyH_ready (rs := [4]) (by kernel_rfl) (by simp) ?_
          refine AllReadyH.cons rfl (fun K hK => ?_) ?_
          · go_simp
            refine hK.out _ _ ?_ (fun hHeld => ?_)
            · simp [*, World.cell?_setCell_far]
            clear hK K; (try simp only [Act.put, List.setIfInBounds_toArray, List.set_cons_zero, List.set_cons_succ])
            (refine takeT (i := 8) (d := 36) (v := ?_) rfl rfl (by kernel_rfl) (by kernel_rfl) (by kernel_rfl) (Or.inl ⟨by rfl, ?_⟩) (by assumption) ?_; rotate_left; focus ((intro w hSw; (try dsimp only at hSw); go_simp) <;> with_reducible rfl)); (try simp only [Act.put, List.setIfInBounds_toArray, List.set_cons_zero, List.set_cons_succ])
            (refine takeT (i := 16) (d := 44) (v := ?_) rfl rfl (by kernel_rfl) (by kernel_rfl) (by kernel_rfl) (Or.inl ⟨by rfl, ?_⟩) (by assumption) ?_; rotate_left; focus ((intro w hSw; (try dsimp only at hSw); go_simp) <;> with_reducible rfl)); (try simp only [Act.put, List.setIfInBounds_toArray, List.set_cons_zero, List.set_cons_succ])
            refine wpAnyH_ready (rs := [17]) (by kernel_rfl) (by simp) ?_
            refine AllReadyH.cons rfl (fun K hK => ?_) ?_
            · go_simp
              refine hK.out _ _ ?_ (fun hHeld => ?_)
              · simp [*, World.cell?_setCell_far]
              clear hK K; (try simp only [Act.put, List.setIfInBounds_toArray, List.set_cons_zero, List.set_cons_succ])
              (refine takeT (i := 18) (d := 45) (v := ?_) rfl rfl (by kernel_rfl) (by kernel_rfl) (by kernel_rfl) (Or.inl ⟨by rfl, ?_⟩) (by assumption) ?_; rotate_left; focus ((intro w hSw; (try dsimp only at hSw); go_simp) <;> with_reducible rfl)); (try simp only [Act.put, List.setIfInBounds_toArray, List.set_cons_zero, List.set_cons_succ])
              refine wpAnyH_ready (rs := [19]) (by kernel_rfl) (by simp) ?_
              refine AllReadyH.cons rfl (fun K hK => ?_) ?_
              · go_simp
                refine hK.out _ _ ?_ (fun hHeld => ?_)
                · simp [*, World.cell?_setCell_far]
                clear hK K; (try simp only [Act.put, List.setIfInBounds_toArray, List.set_cons_zero, List.set_cons_succ])
                refine wpAnyH_done (by kernel_rfl) ?_ _
                refine ⟨rfl, ?_⟩
                gi_wp2
                go_roundw
                case rel => exact ⟨1, by omega, rfl, HR.out.step0 NN.out (by omega) (by omega)⟩
                case measure => simp [intOf]
              exact AllReadyH.nil
            exact AllReadyH.nil
          exact AllReadyH.nil
        exact AllReadyH.nil
      · have q5 : wr.cell? ⟨w2.heap.size, 1, none⟩ = some (.int .i64 L1) := hR.b5.cell 1
        have g5 : wr.frozen? ⟨w2.heap.size, 1, none⟩ = false := hR.b5.free 1
        have q6 : wr.cell? ⟨w2.heap.size + 1, 1, none⟩ = some (.int .i64 H1) := hR.b6.cell 1
        have g6 : wr.frozen? ⟨w2.heap.size + 1, 1, none⟩ = false := hR.b6.free 1
        have qX : wr.cell? ⟨Bx, 1, none⟩ = some (.int .i64 x1) := hR.bX.cell 1
        have y5 := hR.b5.lt; have y6 := hR.b6.lt; have yX := hR.bX.lt
        have HR := Lib.hid hR
        clear hR h51 h61 h31 hX hB1'
        gi_wp2
        refine wpIn_region_round (S := fun W => W.cell? ⟨Bx, 1, none⟩ = some (.int .i64 x1)) (by kernel_rfl) (by rfl) (by simpa using qX) (fun hHeld => ?_)
        (refine takeT (i := 0) (d := 28) (v := ?_) rfl rfl (by kernel_rfl) (by kernel_rfl) (by kernel_rfl) (Or.inl ⟨by rfl, ?_⟩) (by assumption) ?_; rotate_left; focus ((intro w hSw; (try dsimp only at hSw); go_simp) <;> with_reducible rfl)); (try simp only [Act.put, List.setIfInBounds_toArray, List.set_cons_zero, List.set_cons_succ])
        (refine takeT (i := 1) (d := 29) (v := ?_) rfl rfl (by kernel_rfl) (by kernel_rfl) (by kernel_rfl) (Or.inl ⟨by rfl, ?_⟩) (by assumption) ?_; rotate_left; focus ((intro w hSw; (try dsimp only at hSw); go_simp) <;> with_reducible rfl)); (try simp only [Act.put, List.setIfInBounds_toArray, List.set_cons_zero, List.set_cons_succ])
        (refine takeT (i := 2) (d := 30) (v := ?_) rfl rfl (by kernel_rfl) (by kernel_rfl) (by kernel_rfl) (Or.inl ⟨by rfl, ?_⟩) (by assumption) ?_; rotate_left; focus ((intro w hSw; (try dsimp only at hSw); go_simp) <;> with_reducible rfl)); (try simp only [Act.put, List.setIfInBounds_toArray, List.set_cons_zero, List.set_cons_succ])
        (refine takeT (i := 3) (d := 31) (v := ?_) rfl rfl (by kernel_rfl) (by kernel_rfl) (by kernel_rfl) (Or.inl ⟨by rfl, ?_⟩) (by assumption) ?_; rotate_left; focus ((intro w hSw; (try dsimp only at hSw); go_simp) <;> with_reducible rfl)); (try simp only [Act.put, List.setIfInBounds_toArray, List.set_cons_zero, List.set_cons_succ])
        (refine takeT (i := 5) (d := 33) (v := ?_) rfl rfl (by kernel_rfl) (by kernel_rfl) (by kernel_rfl) (Or.inl ⟨by rfl, ?_⟩) (by assumption) ?_; rotate_left; focus ((intro w hSw; (try dsimp only at hSw); go_simp) <;> with_reducible rfl)); (try simp only [Act.put, List.setIfInBounds_toArray, List.set_cons_zero, List.set_cons_succ])
        (refine takeT (i := 6) (d := 34) (v := ?_) rfl rfl (by kernel_rfl) (by kernel_rfl) (by kernel_rfl) (Or.inl ⟨by rfl, ?_⟩) (by assumption) ?_; rotate_left; focus ((intro w hSw; (try dsimp only at hSw); go_simp) <;> with_reducible rfl)); (try simp only [Act.put, List.setIfInBounds_toArray, List.set_cons_zero, List.set_cons_succ])
        (refine takeT (i := 7) (d := 35) (v := ?_) rfl rfl (by kernel_rfl) (by kernel_rfl) (by kernel_rfl) (Or.inl ⟨by rfl, ?_⟩) (by assumption) ?_; rotate_left; focus ((intro w hSw; (try dsimp only at hSw); go_simp) <;> with_reducible rfl)); (try simp only [Act.put, List.setIfInBounds_toArray, List.set_cons_zero, List.set_cons_succ])
        (refine takeT (i := 9) (d := 37) (v := ?_) rfl rfl (by kernel_rfl) (by kernel_rfl) (by kernel_rfl) (Or.inl ⟨by rfl, ?_⟩) (by assumption) ?_; rotate_left; focus ((intro w hSw; (try dsimp only at hSw); go_simp) <;> with_reducible rfl)); (try simp only [Act.put, List.setIfInBounds_toArray, List.set_cons_zero, List.set_cons_succ])
        (refine takeT (i := 10) (d := 38) (v := ?_) rfl rfl (by kernel_rfl) (by kernel_rfl) (by kernel_rfl) (Or.inl ⟨by rfl, ?_⟩) (by assumption) ?_; rotate_left; focus ((intro w hSw; (try dsimp only at hSw); go_simp) <;> with_reducible rfl)); (try simp only [Act.put, List.setIfInBounds_toArray, List.set_cons_zero, List.set_cons_succ])
        (refine takeT (i := 12) (d := 40) (v := ?_) rfl rfl (by kernel_rfl) (by kernel_rfl) (by kernel_rfl) (Or.inl ⟨by rfl, ?_⟩) (by assumption) ?_; rotate_left; focus ((intro w hSw; (try dsimp only at hSw); go_simp) <;> with_reducible rfl)); (try simp only [Act.put, List.setIfInBounds_toArray, List.set_cons_zero, List.set_cons_succ])
        (refine takeT (i := 13) (d := 41) (v := ?_) rfl rfl (by kernel_rfl) (by kernel_rfl) (by kernel_rfl) (Or.inl ⟨by rfl, ?_⟩) (by assumption) ?_; rotate_left; focus ((intro w hSw; (try dsimp only at hSw); go_simp) <;> with_reducible rfl)); (try simp only [Act.put, List.setIfInBounds_toArray, List.set_cons_zero, List.set_cons_succ])
        (refine takeT (i := 14) (d := 42) (v := ?_) rfl rfl (by kernel_rfl) (by kernel_rfl) (by kernel_rfl) (Or.inl ⟨by rfl, ?_⟩) (by assumption) ?_; rotate_left; focus ((intro w hSw; (try dsimp only at hSw); go_simp) <;> with_reducible rfl)); (try simp only [Act.put, List.setIfInBounds_toArray, List.set_cons_zero, List.set_cons_succ])
        refine wpAnyH_ready (rs := [4, 11]) (by kernel_rfl) (by simp) ?_
        refine AllReadyH.cons rfl (fun K hK => ?_) ?_
        · go_simp
          refine hK.out _ _ ?_ (fun hHeld => ?_)
          · simp [*, World.cell?_setCell_far]
          clear hK K; (try simp only [Act.put, List.setIfInBounds_toArray, List.set_cons_zero, List.set_cons_succ])
          (refine takeT (i := 8) (d := 36) (v := ?_) rfl rfl (by kernel_rfl) (by kernel_rfl) (by kernel_rfl) (Or.inl ⟨by rfl, ?_⟩) (by assumption) ?_; rotate_left; focus ((intro w hSw; (try dsimp only at hSw); go_simp) <;> with_reducible rfl)); (try simp only [Act.put, List.setIfInBounds_toArray, List.set_cons_zero, List.set_cons_succ])
          (refine takeT (i := 16) (d := 44) (v := ?_) rfl rfl (by kernel_rfl) (by kernel_rfl) (by kernel_rfl) (Or.inl ⟨by rfl, ?_⟩) (by assumption) ?_; rotate_left; focus ((intro w hSw; (try dsimp only at hSw); go_simp) <;> with_reducible rfl)); (try simp only [Act.put, List.setIfInBounds_toArray, List.set_cons_zero, List.set_cons_succ])
          refine wpAnyH_ready (rs := [11, 17]) (by kernel_rfl) (by simp) ?_
          refine AllReadyH.cons rfl (fun K hK => ?_) ?_
          · go_simp
            refine hK.out _ _ ?_ (fun hHeld => ?_)
            · simp [*, World.cell?_setCell_far]
            clear hK K; (try simp only [Act.put, List.setIfInBounds_toArray, List.set_cons_zero, List.set_cons_succ])
            (refine takeT (i := 15) (d := 43) (v := ?_) rfl rfl (by kernel_rfl) (by kernel_rfl) (by kernel_rfl) (Or.inl ⟨by rfl, ?_⟩) (by assumption) ?_; rotate_left; focus ((intro w hSw; (try dsimp only at hSw); go_simp) <;> with_reducible rfl)); (try simp only [Act.put, List.setIfInBounds_toArray, List.set_cons_zero, List.set_cons_succ])
            refine wpAnyH_ready (rs := [17]) (by kernel_rfl) (by simp) ?_
            refine AllReadyH.cons rfl (fun K hK => ?_) ?_
            · go_simp
              refine hK.out _ _ ?_ (fun hHeld => ?_)
              · simp [*, World.cell?_setCell_far]
              clear hK K; (try simp only [Act.put, List.setIfInBounds_toArray, List.set_cons_zero, List.set_cons_succ])
              (refine takeT (i := 18) (d := 45) (v := ?_) rfl rfl (by kernel_rfl) (by kernel_rfl) (by kernel_rfl) (Or.inl ⟨by rfl, ?_⟩) (by assumption) ?_; rotate_left; focus ((intro w hSw; (try dsimp only at hSw); go_simp) <;> with_reducible rfl)); (try simp only [Act.put, List.setIfInBounds_toArray, List.set_cons_zero, List.set_cons_succ])
              refine wpAnyH_ready (rs := [19]) (by kernel_rfl) (by simp) ?_
              refine AllReadyH.cons rfl (fun K hK => ?_) ?_
              · go_simp
                refine hK.out _ _ ?_ (fun hHeld => ?_)
                · simp [*, World.cell?_setCell_far]
                clear hK K; (try simp only [Act.put, List.setIfInBounds_toArray, List.set_cons_zero, List.set_cons_succ])
                refine wpAnyH_done (by kernel_rfl) ?_ _
                refine ⟨rfl, ?_⟩
                gi_wp2
                go_roundw
                case rel => exact ⟨2, by omega, rfl, HR.out.step1 NN.out (by omega) (by omega)⟩
                case measure => simp [intOf]
              exact AllReadyH.nil
            exact AllReadyH.nil
          refine AllReadyH.cons rfl (fun K hK => ?_) ?_
          · go_simp
            refine hK.out _ _ ?_ (fun hHeld => ?_)
            · simp [*, World.cell?_setCell_far]
            clear hK K; (try simp only [Act.put, List.setIfInBounds_toArray, List.set_cons_zero, List.set_cons_succ])
            refine wpAnyH_ready (rs := [11]) (by kernel_rfl) (by simp) ?_
            refine AllReadyH.cons rfl (fun K hK => ?_) ?_
            · go_simp
              refine hK.out _ _ ?_ (fun hHeld => ?_)
              · simp [*, World.cell?_setCell_far]
              clear hK K; (try simp only [Act.put, List.setIfInBounds_toArray, List.set_cons_zero, List.set_cons_succ])
              (refine takeT (i := 15) (d := 43) (v := ?_) rfl rfl (by kernel_rfl) (by kernel_rfl) (by kernel_rfl) (Or.inl ⟨by rfl, ?_⟩) (by assumption) ?_; rotate_left; focus ((intro w hSw; (try dsimp only at hSw); go_simp) <;> with_reducible rfl)); (try simp only [Act.put, List.setIfInBounds_toArray, List.set_cons_zero, List.set_cons_succ])
              (refine takeT (i := 18) (d := 45) (v := ?_) rfl rfl (by kernel_rfl) (by kernel_rfl) (by kernel_rfl) (Or.inl ⟨by rfl, ?_⟩) (by assumption) ?_; rotate_left; focus ((intro w hSw; (try dsimp only at hSw); go_simp) <;> with_reducible rfl)); (try simp only [Act.put, List.setIfInBounds_toArray, List.set_cons_zero, List.set_cons_succ])
              refine wpAnyH_ready (rs := [19]) (by kernel_rfl) (by simp) ?_
              refine AllReadyH.cons rfl (fun K hK => ?_) ?_
              · go_simp
                refine hK.out _ _ ?_ (fun hHeld => ?_)
                · simp [*, World.cell?_setCell_far]
                clear hK K; (try simp only [Act.put, List.setIfInBounds_toArray, List.set_cons_zero, List.set_cons_succ])
                refine wpAnyH_done (by kernel_rfl) ?_ _
                refine ⟨rfl, ?_⟩
                gi_wp2
                go_roundw
                case rel => exact ⟨2, by omega, rfl, HR.out.step1 NN.out (by omega) (by omega)⟩
                case measure => simp [intOf]
              exact AllReadyH.nil
            exact AllReadyH.nil
          exact AllReadyH.nil
        refine AllReadyH.cons rfl (fun K hK => ?_) ?_
        · go_simp
          refine hK.out _ _ ?_ (fun hHeld => ?_)
          · simp [*, World.cell?_setCell_far]
          clear hK K; (try simp only [Act.put, List.setIfInBounds_toArray, List.set_cons_zero, List.set_cons_succ])
          (refine takeT (i := 15) (d := 43) (v := ?_) rfl rfl (by kernel_rfl) (by kernel_rfl) (by kernel_rfl) (Or.inl ⟨by rfl, ?_⟩) (by assumption) ?_; rotate_left; focus ((intro w hSw; (try dsimp only at hSw); go_simp) <;> with_reducible rfl)); (try simp only [Act.put, List.setIfInBounds_toArray, List.set_cons_zero, List.set_cons_succ])
          refine wpAnyH_ready (rs := [4]) (by kernel_rfl) (by simp) ?_
          refine AllReadyH.cons rfl (fun K hK => ?_) ?_
          · go_simp
            refine hK.out _ _ ?_ (fun hHeld => ?_)
            · simp [*, World.cell?_setCell_far]
            clear hK K; (try simp only [Act.put, List.setIfInBounds_toArray, List.set_cons_zero, List.set_cons_succ])
            (refine takeT (i := 8) (d := 36) (v := ?_) rfl rfl (by kernel_rfl) (by kernel_rfl) (by kernel_rfl) (Or.inl ⟨by rfl, ?_⟩) (by assumption) ?_; rotate_left; focus ((intro w hSw; (try dsimp only at hSw); go_simp) <;> with_reducible rfl)); (try simp only [Act.put, List.setIfInBounds_toArray, List.set_cons_zero, List.set_cons_succ])
            (refine takeT (i := 16) (d := 44) (v := ?_) rfl rfl (by kernel_rfl) (by kernel_rfl) (by kernel_rfl) (Or.inl ⟨by rfl, ?_⟩) (by assumption) ?_; rotate_left; focus ((intro w hSw; (try dsimp only at hSw); go_simp) <;> with_reducible rfl)); (try simp only [Act.put, List.setIfInBounds_toArray, List.set_cons_zero, List.set_cons_succ])
            refine wpAnyH_ready (rs := [17]) (by kernel_rfl) (by simp) ?_
            refine AllReadyH.cons rfl (fun K hK => ?_) ?_
            · go_simp
              refine hK.out _ _ ?_ (fun hHeld => ?_)
              · simp [*, World.cell?_setCell_far]
              clear hK K; (try simp only [Act.put, List.setIfInBounds_toArray, List.set_cons_zero, List.set_cons_succ])
              (refine takeT (i := 18) (d := 45) (v := ?_) rfl rfl (by kernel_rfl) (by kernel_rfl) (by kernel_rfl) (Or.inl ⟨by rfl, ?_⟩) (by assumption) ?_; rotate_left; focus ((intro w hSw; (try dsimp only at hSw); go_simp) <;> with_reducible rfl)); (try simp only [Act.put, List.setIfInBounds_toArray, List.set_cons_zero, List.set_cons_succ])
              refine wpAnyH_ready (rs := [19]) (by kernel_rfl) (by simp) ?_
              refine AllReadyH.cons rfl (fun K hK => ?_) ?_
              · go_simp
                refine hK.out _ _ ?_ (fun hHeld => ?_)
                · simp [*, World.cell?_setCell_far]
                clear hK K; (try simp only [Act.put, List.setIfInBounds_toArray, List.set_cons_zero, List.set_cons_succ])
                refine wpAnyH_done (by kernel_rfl) ?_ _
                refine ⟨rfl, ?_⟩
                gi_wp2
                go_roundw
                case rel => exact ⟨2, by omega, rfl, HR.out.step1 NN.out (by omega) (by omega)⟩
                case measure => simp [intOf]
              exact AllReadyH.nil
            exact AllReadyH.nil
          exact AllReadyH.nil
        exact AllReadyH.nil
      · clear h51 h61 h31 hX
        have HR := Lib.hid hR
        clear hR
        gi_wp2
        exact ⟨HR.out.keeps, HR.out.keepb, ⟨⟨⟨by rw [mnU_snoc, mnU_snoc, hL0, hL1, hx0, hx1]; exact HR.out.b5, by rw [mxU_snoc, mxU_snoc, hH0, hH1, hx0, hx1]; exact HR.out.b6⟩, HR.out.b3⟩, hB1'.out.trans HR.out.below⟩, Nat.le_trans hs1 HR.out.keeps.size⟩
  case done =>
    rintro D ys W hD rfl ⟨⟨⟨⟨b51, b61⟩, b31⟩, hB1⟩, hs1⟩ hK
    change Blk W _ _ #[.int .i64 (mnU (lowB s l) (dayL f u)), .int .i64 (mnU (highB s l) (dayL f u))] at b51
    change Blk W _ _ #[.int .i64 (mxU (lowB s l) (dayL f u)), .int .i64 (mxU (highB s l) (dayL f u))] at b61
    have hdec : decP s l k0 f u v = decP s l k0 f u v := rfl
    conv at hdec => rhs; unfold decP
    obtain ⟨L0, hL0⟩ : ∃ z, mnU (lowB s l) (dayL f u) = z := ⟨_, rfl⟩
    obtain ⟨L1, hL1⟩ : ∃ z, mnU (highB s l) (dayL f u) = z := ⟨_, rfl⟩
    obtain ⟨H0, hH0⟩ : ∃ z, mxU (lowB s l) (dayL f u) = z := ⟨_, rfl⟩
    obtain ⟨H1, hH1⟩ : ∃ z, mxU (highB s l) (dayL f u) = z := ⟨_, rfl⟩
    rw [hL0, hL1, hH0, hH1] at hdec
    rw [hL0, hL1] at b51
    rw [hH0, hH1] at b61
    have l0 : W.cell? ⟨w2.heap.size, 0, none⟩ = some (.int .i64 L0) := b51.cell 0
    have l1 : W.cell? ⟨w2.heap.size, 1, none⟩ = some (.int .i64 L1) := b51.cell 1
    have h0 : W.cell? ⟨w2.heap.size + 1, 0, none⟩ = some (.int .i64 H0) := b61.cell 0
    have h1 : W.cell? ⟨w2.heap.size + 1, 1, none⟩ = some (.int .i64 H1) := b61.cell 1
    have p0 : W.cell? ⟨w.heap.size + 1, 0, none⟩ = some (.int .i64 k0) := b31.cell 0
    have p3 : W.cell? ⟨w.heap.size + 1, 3, none⟩ = some (.int .i64 v) := b31.cell 3
    have HB := Lib.hid hB1; have HK := Lib.hid hK; have HD := Lib.hid hdec
    clear hB1 hK hdec b51 b61 b31
    have hfin : Below w.heap.size w (W.putObj D (.deferred none)) := HB.out.trans (belowK_b (w := w) (Nat.le_refl _) W D _ _ (by omega) HK.out rfl rfl)
    have HF := Lib.hid hfin
    clear hfin
    obtain rfl | rfl | rfl | rfl : k0 = 1 ∨ k0 = 2 ∨ k0 = 3 ∨ k0 = 4 := by omega
    all_goals
      gi_wp2_with (refine ⟨trivial, ?_⟩; gi_at_call 38; refine (callsIn_wide.2 (pdecided_any _ _ _)).mono ?_; rintro e w9 ⟨rfl, rfl⟩)
      all_goals
        refine ⟨by simp, .inl ⟨_, _, rfl, run_takeDeferred HK.out, ?_⟩⟩
        refine ⟨_, results_tmp rfl _ _ _, ?_, HF.out⟩
        rw [HD.out]
        clear HD HF HK
        simp_all [decW, dec3]
        all_goals omega
  case stop =>
    rintro D c pre W _ _ h _
    exact h.elim

theorem pDecide_any (s : Int) (a : Option Addr) (len cap : Nat) (l : List (Int × Int)) (w : World) (hS : Ser w a l) (hl : l.length = len) (hcap : len ≤ 9223372036854775807) (k0 f u v : Int) :
    Calls Try.prog 23 #[.agg #[.int .i64 s, .slice a len cap], .agg #[.int .i64 k0, .int .i64 f, .int .i64 u, .int .i64 v]] w fun e w' => e = .returned (.int .i64 (decAny s l k0 f u v)) ∧ Below w.heap.size w w' := by
  unfold decAny
  by_cases hc : chkS s l = 0
  · rw [if_pos hc]
    by_cases hp : phE k0 f u v = 0
    · rw [if_pos hp]; exact pDecide_ok s a len cap l w hS hl hcap k0 f u v hc hp
    · rw [if_neg hp]; exact pDecide_ph s a len cap l w hS hl hcap k0 f u v _ hc rfl hp
  · rw [if_neg hc]; exact pDecide_bad s a len cap l w hS hl hcap k0 f u v _ rfl hc
end Go.Proofs.Ytlfcdjgmegfjoaa
