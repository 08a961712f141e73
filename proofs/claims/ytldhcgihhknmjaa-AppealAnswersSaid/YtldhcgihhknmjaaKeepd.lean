/- The appeal that the second keeper makes: always a right one. -/
import Derived.Test.YtldhcgihhknmjaaKeepc
import Derived.Test.YtldhcgihhknmjaaMem
import Derived.Deep.RegionHeld3
namespace Go.Proofs.Ytldhcgihhknmjaa
open Go.RowKit

theorem Blk.fresh {w : World} {g : Nat} {t : TypeId} {cs : Array Value} (h : g = w.heap.size) : Blk (w.alloc (.cells cs t)) g t cs := h ▸ Blk.new w t cs
theorem Blk.put3 {w : World} {g : Nat} {t : TypeId} {cs cs' : Array Value} {v0 v1 v2 : Value} (h : Blk w g t cs) (e : ((cs.setIfInBounds 0 v0).setIfInBounds 1 v1).setIfInBounds 2 v2 = cs') :
    Blk (((w.setCell ⟨g, 0, none⟩ v0).setCell ⟨g, 1, none⟩ v1).setCell ⟨g, 2, none⟩ v2) g t cs' := e ▸ ((h.put 0 _).put 1 _).put 2 _
theorem into {p g : Prop} (h : p) (k : p → g) : g := k h
theorem good_known {L A d : Int} (hL : TermsOK L A) (h0 : 0 ≤ d) (h1 : d ≤ 36864) : Good L A d 1 d := by
  refine ⟨hL, ⟨h0, h1, by omega, h1⟩, ?_⟩
  simp [sinceB]

/-- What the second keeper's appeal is: a right one, known soon. -/
def Fine (L A K S T : Int) : Prop := Good L A K S T ∧ K ≤ 49
theorem Fine.T {L A K S T : Int} (h : Fine L A K S T) (hL : L ≤ 12) (hA : A ≤ 12) : T ≤ 80 ∧ 0 ≤ T := by
  obtain ⟨⟨⟨_, _, _, _⟩, ⟨_, _, _, _⟩, hs⟩, _⟩ := h
  unfold sinceB at hs
  split at hs
  · simp at hs; omega
  · split at hs
    · simp at hs; omega
    · split at hs
      · simp at hs; omega
      · split at hs
        · simp at hs; omega
        · simp at hs
theorem fine_move {L A K S T f g d : Int} (h : Fine L A K S T) (hg : f = 1 ∧ g = 2 ∨ f = 2 ∧ (g = 3 ∨ g = 4)) (he : (moveR L A K S T f g d).e = 0) :
    Fine L A (moveR L A K S T f g d).k (moveR L A K S T f g d).s (moveR L A K S T f g d).t := by
  obtain ⟨hG, hK⟩ := h
  have hl := good_lim hG
  unfold moveR at he ⊢
  rw [if_pos hG] at he ⊢
  split
  · rename_i c; rw [if_pos c] at he; simp at he
  · rename_i c
    rw [if_neg c] at he
    split
    · rename_i c2; rw [if_pos c2] at he; simp at he
    · rename_i c2
      rw [if_neg c2] at he
      split
      · rename_i c3; rw [if_pos c3] at he; simp at he
      · rename_i c3
        have hS : S = f := by omega
        refine ⟨⟨hG.1, ⟨by show 0 ≤ K; omega, by show K ≤ 36864; omega, ?_, by show d ≤ 36864; omega⟩, ?_⟩, hK⟩
        · show K ≤ d; omega
        · show sinceB L A K g d = true
          have hs := hG.2.2
          rcases hg with ⟨rfl, rfl⟩ | ⟨rfl, rfl | rfl⟩ <;> subst hS <;> simp [sinceB, dueI] at hs c3 ⊢ <;> omega
theorem fine_tick {L A K S T d : Int} (h : Fine L A K S T) (he : (tickR L A K S T d).e = 0) :
    Fine L A (tickR L A K S T d).k (tickR L A K S T d).s (tickR L A K S T d).t := by
  obtain ⟨hG, hK⟩ := h
  have hl := good_lim hG
  have hs := hG.2.2
  unfold tickR at he ⊢
  rw [if_pos hG] at he ⊢
  split
  · rename_i c; rw [if_pos c] at he; simp at he
  · rename_i c
    split
    · rename_i c2
      obtain ⟨rfl, c2⟩ := c2
      refine ⟨⟨hG.1, ⟨by show 0 ≤ K; omega, by show K ≤ 36864; omega, by show K ≤ K + L + 1; omega, by show K + L + 1 ≤ 36864; omega⟩, ?_⟩, hK⟩
      show sinceB L A K 5 (K + L + 1) = true
      simp [sinceB]
    · split
      · rename_i c3
        obtain ⟨rfl, c3⟩ := c3
        refine ⟨⟨hG.1, ⟨by show 0 ≤ K; omega, by show K ≤ 36864; omega, by show K ≤ T + A; omega, by show T + A ≤ 36864; omega⟩, ?_⟩, hK⟩
        show sinceB L A K 4 (T + A) = true
        simp [sinceB] at hs ⊢
        omega
      · exact ⟨hG, hK⟩

def AppealPost (b : Nat) (L A : Int) (w : World) (e : Ending) (w' : World) : Prop :=
  ∃ K S T : Int, Fine L A K S T ∧ e = .returned (.agg #[.int .i64 K, .int .i64 S, .int .i64 T]) ∧ Steps1 b w w'

/-- The call's own blocks while the appeal is made: the terms, the result's place. -/
structure Own2 (b : Nat) (L A : Int) (w wx : World) : Prop where
  steps : Steps1 b w wx
  terms : Blk wx w.heap.size 26 #[.int .i64 L, .int .i64 A]
  res : Blk wx (w.heap.size + 1) 29 #[.int .i64 0, .int .i64 0, .int .i64 0]
section
variable {b : Nat} {L A : Int} {w wx wy : World}
theorem Own2.init (h : Tape w b) : Own2 b L A w ((w.alloc (.cells #[.int .i64 L, .int .i64 A] 26)).alloc (.cells #[.int .i64 0, .int .i64 0, .int .i64 0] 29)) :=
  ⟨sal (sal (.refl h) _) _, (Blk.new w _ _).alloc _, Blk.fresh (by simp)⟩
theorem Own2.step (h : Own2 b L A w wx) (hs : Steps1 b wx wy) : Own2 b L A w wy := have hl := h.steps.lt; ⟨h.steps.trans hs, h.terms.step hs (by omega), h.res.step hs (by omega)⟩
theorem Own2.below (h : Own2 b L A w wx) (hb : Below wx.heap.size wx wy) : Own2 b L A w wy := h.step (.of_below h.steps.now hb)
theorem Own2.drew (h : Own2 b L A w wx) : Own2 b L A w wx.drew := ⟨h.steps.drew, h.terms, h.res⟩
theorem Own2.alloc (h : Own2 b L A w wx) (o : Obj) : Own2 b L A w (wx.alloc o) := h.below ((Below.refl _ _).alloc (Nat.le_refl _) o)
theorem Own2.far (h : Own2 b L A w wx) (k o : Nat) (u : Value) (hk : w.heap.size + 2 ≤ k) : Own2 b L A w (wx.setCell ⟨k, o, none⟩ u) :=
  ⟨sst h.steps _ _ _ (by omega), h.terms.far _ _ _ (by omega), h.res.far _ _ _ (by omega)⟩
theorem Own2.size (h : Own2 b L A w wx) : w.heap.size + 2 ≤ wx.heap.size := h.res.lt
end
/-- What the blocks hold while the appeal is made: the terms, the result's place, the appeal so far. -/
structure Hold (b : Nat) (L A : Int) (w : World) (ba : Nat) (K S T : Int) (wx : World) : Prop where
  steps : Steps1 b w wx
  lo : w.heap.size + 2 ≤ ba
  terms : Blk wx w.heap.size 26 #[.int .i64 L, .int .i64 A]
  res : Blk wx (w.heap.size + 1) 29 #[.int .i64 0, .int .i64 0, .int .i64 0]
  app : Blk wx ba 29 #[.int .i64 K, .int .i64 S, .int .i64 T]
  fine : Fine L A K S T
section
variable {b ba : Nat} {L A K S T : Int} {w wx wy : World}
theorem Hold.step (h : Hold b L A w ba K S T wx) (hs : Steps1 b wx wy) : Hold b L A w ba K S T wy :=
  have hl := h.steps.lt
  ⟨h.steps.trans hs, h.lo, h.terms.step hs (by omega), h.res.step hs (by omega), h.app.step hs (by have := h.lo; omega), h.fine⟩
theorem Hold.below (h : Hold b L A w ba K S T wx) (hb : Below wx.heap.size wx wy) : Hold b L A w ba K S T wy := h.step (.of_below h.steps.now hb)
theorem Hold.drew (h : Hold b L A w ba K S T wx) : Hold b L A w ba K S T wx.drew := ⟨h.steps.drew, h.lo, h.terms, h.res, h.app, h.fine⟩
theorem Hold.alloc (h : Hold b L A w ba K S T wx) (o : Obj) : Hold b L A w ba K S T (wx.alloc o) := h.below ((Below.refl _ _).alloc (Nat.le_refl _) o)
theorem Hold.far (h : Hold b L A w ba K S T wx) (k o : Nat) (u : Value) (hk : w.heap.size + 2 ≤ k) (hne : k ≠ ba) : Hold b L A w ba K S T (wx.setCell ⟨k, o, none⟩ u) :=
  ⟨sst h.steps _ _ _ (by omega), h.lo, h.terms.far _ _ _ (by omega), h.res.far _ _ _ (by omega), h.app.far _ _ _ (by omega), h.fine⟩
theorem Hold.put {K' S' T' : Int} (h : Hold b L A w ba K S T wx) (hf : Fine L A K' S' T') : Hold b L A w ba K' S' T' (((wx.setCell ⟨ba, 0, none⟩ (.int .i64 K')).setCell ⟨ba, 1, none⟩ (.int .i64 S')).setCell ⟨ba, 2, none⟩ (.int .i64 T')) :=
  have hlo := h.lo
  ⟨sst (sst (sst h.steps _ _ _ (by omega)) _ _ _ (by omega)) _ _ _ (by omega), h.lo, ((h.terms.far _ _ _ (by omega)).far _ _ _ (by omega)).far _ _ _ (by omega),
    ((h.res.far _ _ _ (by omega)).far _ _ _ (by omega)).far _ _ _ (by omega), ((h.app.put 0 _).put 1 _).put 2 _, hf⟩
end
/-- Behind the first statement. -/
def Cut1 (b : Nat) (L A : Int) (w : World) (s5 : Value) (wx : World) : Prop := ∃ (ba : Nat) (K S T : Int), s5 = .pointer (some ⟨ba, 0, none⟩) ∧ Hold b L A w ba K S T wx
/-- The loop's relation. -/
def Loop1 (b : Nat) (L A : Int) (w : World) (ba : Nat) (n : Value) (wx : World) : Prop := ∃ (k : Nat) (K S T : Int), n = .int .i64 k ∧ k ≤ 3 ∧ Hold b L A w ba K S T wx

set_option maxHeartbeats 2000000 in
theorem appeal_any (b : Nat) (L A : Int) (w : World) (hT : Tape w b) (l1 : 1 ≤ L) (l2 : L ≤ 12) (l3 : 1 ≤ A) (l4 : A ≤ 12) :
    Calls Try.prog 9 #[.pointer (some ⟨b, 0, none⟩), .agg #[.int .i64 L, .int .i64 A]] w (AppealPost b L A w) := by
  have TT := Lib.hid hT
  have hbw := hT.lt
  have hk : ∀ d : Int, 0 ≤ d → d < 40 → knownR L A d = ⟨d, 1, d, 0⟩ := fun d h0 h1 => by
    unfold knownR
    have hL : TermsOK L A := ⟨by omega, by omega, by omega, by omega⟩
    rw [if_pos hL, if_neg (by omega)]
  have HK := Lib.hid hk
  have O0 := Lib.hid (Own2.init (L := L) (A := A) hT)
  clear hT hk
  go_enter Try.func9, Try.ntmps9
  go_wp2
  go_upto_region 1 with fail
  go_cut [5] (fun s5 wx => Cut1 b L A w s5 wx)
  case first =>
    go_region_held3 (fun w' => w'.cell? ⟨w.heap.size, 0, none⟩ = some (.int .i64 L) ∧ w'.cell? ⟨w.heap.size, 1, none⟩ = some (.int .i64 A)) (simp [go_sem, *])
      (first
      | (go_at_call 12; refine (next_any _ _ _ (by first | exact TT.out.drew | exact ((TT.out.alloc _).alloc _).drew | exact ((TT.out.alloc _).alloc _) | exact (((TT.out.alloc _).alloc _).alloc _).drew | exact (((TT.out.alloc _).alloc _).alloc _)) (by omega) (by omega)).mono ?_; rintro e w1 ⟨d, d1, d2, rfl, hsw1⟩; have O1 : Own2 b L A w w1 := (by first | exact O0.out.drew.step hsw1 | exact (O0.out.alloc _).drew.step hsw1); have pw1a0 : w1.cell? ⟨w.heap.size, 0, none⟩ = some (.int .i64 L) := O1.terms.cell 0; have pw1a1 : w1.cell? ⟨w.heap.size, 1, none⟩ = some (.int .i64 A) := O1.terms.cell 1; have yw1a := O1.terms.lt; (try (have B1 := ((Blk.fresh (w := ((w.alloc _).alloc _)) (g := w.heap.size + 1 + 1) (cs := #[.int .i64 0, .int .i64 0, .int .i64 0]) (by simp)).drew.step hsw1 (by omega) : Blk w1 (w.heap.size + 1 + 1) 29 #[.int .i64 0, .int .i64 0, .int .i64 0]); have uc0 : w1.cell? ⟨w.heap.size + 1 + 1, 0, none⟩ = some (.int .i64 0) := B1.cell 0; have uf0 := B1.free 0; have uc1 : w1.cell? ⟨w.heap.size + 1 + 1, 1, none⟩ = some (.int .i64 0) := B1.cell 1; have uf1 := B1.free 1; have uc2 : w1.cell? ⟨w.heap.size + 1 + 1, 2, none⟩ = some (.int .i64 0) := B1.cell 2; have uf2 := B1.free 2)))
      | (go_at_call 26; refine (rknown_any _ _ _ _).mono ?_; rw [HK.out d d1 d2]; rintro e w2 ⟨rfl, hbw2⟩; have O2 : Own2 b L A w w2 := (by first | exact O1.below hbw2 | exact (O1.alloc _).below hbw2); have pw2a0 : w2.cell? ⟨w.heap.size, 0, none⟩ = some (.int .i64 L) := O2.terms.cell 0; have pw2a1 : w2.cell? ⟨w.heap.size, 1, none⟩ = some (.int .i64 A) := O2.terms.cell 1; have yw2a := O2.terms.lt; first | (have B2 := B1.below hbw2; have vc0 : w2.cell? ⟨w.heap.size + 1 + 1, 0, none⟩ = some (.int .i64 0) := B2.cell 0; have vf0 := B2.free 0; have vc1 : w2.cell? ⟨w.heap.size + 1 + 1, 1, none⟩ = some (.int .i64 0) := B2.cell 1; have vf1 := B2.free 1; have vc2 : w2.cell? ⟨w.heap.size + 1 + 1, 2, none⟩ = some (.int .i64 0) := B2.cell 2; have vf2 := B2.free 2) | (have B2 := ((Blk.new w1 _ _).below hbw2 : Blk w2 w1.heap.size 29 #[.int .i64 0, .int .i64 0, .int .i64 0]); have vc0 : w2.cell? ⟨w1.heap.size, 0, none⟩ = some (.int .i64 0) := B2.cell 0; have vf0 := B2.free 0; have vc1 : w2.cell? ⟨w1.heap.size, 1, none⟩ = some (.int .i64 0) := B2.cell 1; have vf1 := B2.free 1; have vc2 : w2.cell? ⟨w1.heap.size, 2, none⟩ = some (.int .i64 0) := B2.cell 2; have vf2 := B2.free 2) | skip))
    all_goals (go_wp2_with fail)
    all_goals go_meet
    all_goals
      (case rel =>
        have hz2 := O2.size
        first
        | (refine ⟨w2.heap.size, d, 1, d, rfl, ⟨(O2.alloc _).steps, by omega, (O2.alloc _).terms, (O2.alloc _).res, Blk.new w2 _ _, ⟨good_known ⟨by omega, by omega, by omega, by omega⟩ d1 (by omega), by omega⟩⟩⟩)
        | (have hz1 := O1.size
           have O3 := ((O2.far w1.heap.size 0 (.int .i64 d) (by omega)).far w1.heap.size 1 (.int .i64 1) (by omega)).far w1.heap.size 2 (.int .i64 d) (by omega)
           refine ⟨w1.heap.size, d, 1, d, rfl, ⟨O3.steps, by omega, O3.terms, O3.res, B2.put3 rfl, ⟨good_known ⟨by omega, by omega, by omega, by omega⟩ d1 (by omega), by omega⟩⟩⟩)
        | (have O3 := ((O2.far (w.heap.size + 1 + 1) 0 (.int .i64 d) (by omega)).far (w.heap.size + 1 + 1) 1 (.int .i64 1) (by omega)).far (w.heap.size + 1 + 1) 2 (.int .i64 d) (by omega)
           refine ⟨w.heap.size + 1 + 1, d, 1, d, rfl, ⟨O3.steps, by omega, O3.terms, O3.res, B2.put3 rfl, ⟨good_known ⟨by omega, by omega, by omega, by omega⟩ d1 (by omega), by omega⟩⟩⟩))
  case rest =>
    obtain ⟨ba, K, S, T, rfl, hH⟩ := hcut
    clear HK
    have hlo := hH.lo
    have hts := hH.steps.now
    have H0 := Lib.hid hH
    clear hH
    go_wp2_with fail
    refine (next_any _ _ _ hts (by omega) (by omega)).mono ?_
    rintro e w3 ⟨n, n1, n2, rfl, hs3⟩
    obtain ⟨k, rfl⟩ := Int.eq_ofNat_of_zero_le n1
    have H1 := H0.out.step hs3
    have H2 := Lib.hid H1
    clear H1 H0 hts hs3
    go_wp2_with fail
    go_loopw [7] (fun n wr => Loop1 b L A w ba n wr) (fun n _ => (intOf n).toNat)
    case atStart => exact ⟨k, K, S, T, rfl, by omega, H2.out⟩
    case round =>
      clear H2 n1 n2
      obtain ⟨k, K, S, T, rfl, hk, hH⟩ := hrel
      by_cases hz : k = 0
      · subst hz
        have H0 := Lib.hid hH
        have ca0 : wr.cell? ⟨ba, 0, none⟩ = some (.int .i64 K) := hH.app.cell 0; have ca1 : wr.cell? ⟨ba, 1, none⟩ = some (.int .i64 S) := hH.app.cell 1; have ca2 : wr.cell? ⟨ba, 2, none⟩ = some (.int .i64 T) := hH.app.cell 2
        have cr0 : wr.cell? ⟨w.heap.size + 1, 0, none⟩ = some (.int .i64 0) := hH.res.cell 0; have cr1 : wr.cell? ⟨w.heap.size + 1, 1, none⟩ = some (.int .i64 0) := hH.res.cell 1; have cr2 : wr.cell? ⟨w.heap.size + 1, 2, none⟩ = some (.int .i64 0) := hH.res.cell 2; have crf0 : wr.frozen? ⟨w.heap.size + 1, 0, none⟩ = false := hH.res.free 0; have crf1 : wr.frozen? ⟨w.heap.size + 1, 1, none⟩ = false := hH.res.free 1; have crf2 : wr.frozen? ⟨w.heap.size + 1, 2, none⟩ = false := hH.res.free 2
        clear hH
        go_wp2
        refine bodyPost_ret (v := .agg #[.int .i64 K, .int .i64 S, .int .i64 T]) (by simp [results, Try.results9, go_sem, *]) rfl ⟨K, S, T, H0.out.fine, rfl, ?_⟩
        exact sst (sst (sst H0.out.steps _ _ _ (by omega)) _ _ _ (by omega)) _ _ _ (by omega)
      · obtain ⟨k, rfl⟩ : ∃ k', k = k' + 1 := ⟨k - 1, by omega⟩
        have hp : (0 : Int) < ((k + 1 : Nat) : Int) := by omega
        have hT := hH.fine.T l2 l4
        have hts := hH.steps.now
        have H0 := Lib.hid hH
        have ca2 : wr.cell? ⟨ba, 2, none⟩ = some (.int .i64 T) := hH.app.cell 2
        clear hH hz
        go_wp2_with fail
        go_region_held3 (fun w' => w'.cell? ⟨ba, 2, none⟩ = some (.int .i64 T)) (simp [go_sem, *])
          (first
          | (go_at_call 12; refine (next_any _ _ _ hts.drew (by omega) (by omega)).mono ?_; rintro e w4 ⟨r, r1, r2, rfl, hs4⟩; have H4 := Lib.hid (H0.out.drew.step hs4); have cb2 : w4.cell? ⟨ba, 2, none⟩ = some (.int .i64 T) := H4.out.app.cell 2; have hw : IntKind.i64.wrap (T + r) = T + r := IntWalk.i64_in _ (by omega)))
        clear hw
        have hd : ∃ d : Int, d = T + r := ⟨_, rfl⟩
        obtain ⟨d, hd⟩ := hd
        rw [← hd]
        clear hd r1 r2
        have hlo4 := H4.out.lo
        go_wp2_with fail
        refine (next_any _ _ _ (H4.out.alloc _).steps.now (by omega) (by omega)).mono ?_
        rintro e w5 ⟨c, c1, c2, rfl, hs5⟩
        have hz4 := H4.out.app.lt
        have hb4 := H4.out.steps.lt
        have hz4' := H4.out.steps.size
        have B5 := Lib.hid ((Blk.new w4 29 #[.int .i64 0, .int .i64 0, .int .i64 0]).step hs5 (by omega))
        have H5 := Lib.hid ((H4.out.alloc _).step hs5)
        clear H4 hs5 ca2 cb2 H0 hts
        have hzne : w4.heap.size ≠ ba := by omega
        have hzge : w.heap.size + 2 ≤ w4.heap.size := by omega
        generalize w4.heap.size = bb at *
        have hcc : c = 0 ∨ c = 1 ∨ c = 2 := by omega
        rcases hcc with rfl | rfl | rfl
        · have ct0 : w5.cell? ⟨w.heap.size, 0, none⟩ = some (.int .i64 L) := H5.out.terms.cell 0; have ct1 : w5.cell? ⟨w.heap.size, 1, none⟩ = some (.int .i64 A) := H5.out.terms.cell 1; have ca0 : w5.cell? ⟨ba, 0, none⟩ = some (.int .i64 K) := H5.out.app.cell 0; have ca1 : w5.cell? ⟨ba, 1, none⟩ = some (.int .i64 S) := H5.out.app.cell 1; have ca2 : w5.cell? ⟨ba, 2, none⟩ = some (.int .i64 T) := H5.out.app.cell 2; have caf0 : w5.frozen? ⟨ba, 0, none⟩ = false := H5.out.app.free 0; have caf1 : w5.frozen? ⟨ba, 1, none⟩ = false := H5.out.app.free 1; have caf2 : w5.frozen? ⟨ba, 2, none⟩ = false := H5.out.app.free 2; have cb0 : w5.cell? ⟨bb, 0, none⟩ = some (.int .i64 0) := B5.out.cell 0; have cb1 : w5.cell? ⟨bb, 1, none⟩ = some (.int .i64 0) := B5.out.cell 1; have cb2 : w5.cell? ⟨bb, 2, none⟩ = some (.int .i64 0) := B5.out.cell 2; have cbf0 : w5.frozen? ⟨bb, 0, none⟩ = false := B5.out.free 0; have cbf1 : w5.frozen? ⟨bb, 1, none⟩ = false := B5.out.free 1; have cbf2 : w5.frozen? ⟨bb, 2, none⟩ = false := B5.out.free 2
          generalize hR : moveR L A K S T 1 2 d = R
          have HR := Lib.hid hR
          clear hR
          by_cases hE : R.e = 0
          · have hf := fine_move H5.out.fine (g := 2) (.inl ⟨rfl, rfl⟩) (by rw [HR.out]; exact hE)
            rw [HR.out] at hf
            have HF := Lib.hid hf
            clear hf
            go_wp2_with (go_at_call 21; refine (rlodge_any _ _ _ _ _ _ _).mono ?_; rw [HR.out]; rintro e w6 ⟨rfl, hb6⟩; have H6 := Lib.hid (H5.out.below hb6); have B6 := Lib.hid (B5.out.below hb6); have da0 : w6.cell? ⟨ba, 0, none⟩ = some (.int .i64 K) := H6.out.app.cell 0; have da1 : w6.cell? ⟨ba, 1, none⟩ = some (.int .i64 S) := H6.out.app.cell 1; have da2 : w6.cell? ⟨ba, 2, none⟩ = some (.int .i64 T) := H6.out.app.cell 2; have daf0 : w6.frozen? ⟨ba, 0, none⟩ = false := H6.out.app.free 0; have daf1 : w6.frozen? ⟨ba, 1, none⟩ = false := H6.out.app.free 1; have daf2 : w6.frozen? ⟨ba, 2, none⟩ = false := H6.out.app.free 2; have db0 : w6.cell? ⟨bb, 0, none⟩ = some (.int .i64 0) := B6.out.cell 0; have db1 : w6.cell? ⟨bb, 1, none⟩ = some (.int .i64 0) := B6.out.cell 1; have db2 : w6.cell? ⟨bb, 2, none⟩ = some (.int .i64 0) := B6.out.cell 2; have dbf0 : w6.frozen? ⟨bb, 0, none⟩ = false := B6.out.free 0; have dbf1 : w6.frozen? ⟨bb, 1, none⟩ = false := B6.out.free 1; have dbf2 : w6.frozen? ⟨bb, 2, none⟩ = false := B6.out.free 2)
            go_roundw
            case rel => exact ⟨k, R.k, R.s, R.t, by first | rfl | (congr 1; omega), by omega, (((H6.out.far bb 0 (.int .i64 R.k) hzge hzne).far bb 1 (.int .i64 R.s) hzge hzne).far bb 2 (.int .i64 R.t) hzge hzne).put HF.out⟩
            case measure => simp [intOf] <;> omega
          · have hE' : (R.e == 0) = false := by simpa using hE
            clear hE
            go_wp2_with (go_at_call 21; refine (rlodge_any _ _ _ _ _ _ _).mono ?_; rw [HR.out]; rintro e w6 ⟨rfl, hb6⟩; have H6 := Lib.hid (H5.out.below hb6); have B6 := Lib.hid (B5.out.below hb6); have da0 : w6.cell? ⟨ba, 0, none⟩ = some (.int .i64 K) := H6.out.app.cell 0; have da1 : w6.cell? ⟨ba, 1, none⟩ = some (.int .i64 S) := H6.out.app.cell 1; have da2 : w6.cell? ⟨ba, 2, none⟩ = some (.int .i64 T) := H6.out.app.cell 2; have daf0 : w6.frozen? ⟨ba, 0, none⟩ = false := H6.out.app.free 0; have daf1 : w6.frozen? ⟨ba, 1, none⟩ = false := H6.out.app.free 1; have daf2 : w6.frozen? ⟨ba, 2, none⟩ = false := H6.out.app.free 2; have db0 : w6.cell? ⟨bb, 0, none⟩ = some (.int .i64 0) := B6.out.cell 0; have db1 : w6.cell? ⟨bb, 1, none⟩ = some (.int .i64 0) := B6.out.cell 1; have db2 : w6.cell? ⟨bb, 2, none⟩ = some (.int .i64 0) := B6.out.cell 2; have dbf0 : w6.frozen? ⟨bb, 0, none⟩ = false := B6.out.free 0; have dbf1 : w6.frozen? ⟨bb, 1, none⟩ = false := B6.out.free 1; have dbf2 : w6.frozen? ⟨bb, 2, none⟩ = false := B6.out.free 2)
            go_roundw
            case rel => exact ⟨k, K, S, T, by first | rfl | (congr 1; omega), by omega, ((H6.out.far bb 0 (.int .i64 R.k) hzge hzne).far bb 1 (.int .i64 R.s) hzge hzne).far bb 2 (.int .i64 R.t) hzge hzne⟩
            case measure => simp [intOf] <;> omega
        · have ct0 : w5.cell? ⟨w.heap.size, 0, none⟩ = some (.int .i64 L) := H5.out.terms.cell 0; have ct1 : w5.cell? ⟨w.heap.size, 1, none⟩ = some (.int .i64 A) := H5.out.terms.cell 1; have ca0 : w5.cell? ⟨ba, 0, none⟩ = some (.int .i64 K) := H5.out.app.cell 0; have ca1 : w5.cell? ⟨ba, 1, none⟩ = some (.int .i64 S) := H5.out.app.cell 1; have ca2 : w5.cell? ⟨ba, 2, none⟩ = some (.int .i64 T) := H5.out.app.cell 2; have caf0 : w5.frozen? ⟨ba, 0, none⟩ = false := H5.out.app.free 0; have caf1 : w5.frozen? ⟨ba, 1, none⟩ = false := H5.out.app.free 1; have caf2 : w5.frozen? ⟨ba, 2, none⟩ = false := H5.out.app.free 2; have cb0 : w5.cell? ⟨bb, 0, none⟩ = some (.int .i64 0) := B5.out.cell 0; have cb1 : w5.cell? ⟨bb, 1, none⟩ = some (.int .i64 0) := B5.out.cell 1; have cb2 : w5.cell? ⟨bb, 2, none⟩ = some (.int .i64 0) := B5.out.cell 2; have cbf0 : w5.frozen? ⟨bb, 0, none⟩ = false := B5.out.free 0; have cbf1 : w5.frozen? ⟨bb, 1, none⟩ = false := B5.out.free 1; have cbf2 : w5.frozen? ⟨bb, 2, none⟩ = false := B5.out.free 2
          go_wp2_with fail
          go_region_held3 (fun w' => w'.cell? ⟨w.heap.size, 0, none⟩ = some (.int .i64 L) ∧ w'.cell? ⟨w.heap.size, 1, none⟩ = some (.int .i64 A) ∧ w'.cell? ⟨ba, 0, none⟩ = some (.int .i64 K) ∧ w'.cell? ⟨ba, 1, none⟩ = some (.int .i64 S) ∧ w'.cell? ⟨ba, 2, none⟩ = some (.int .i64 T)) (simp [go_sem, *])
            (first
            | (go_at_call 27; refine (one_any _ _ _ H5.out.steps.now.drew (by omega) (by omega)).mono ?_; rintro e w6 ⟨v, rfl, hs6⟩; have H6 := Lib.hid (H5.out.drew.step hs6); have B6 := Lib.hid (B5.out.drew.step hs6 (by omega)); have et0 : w6.cell? ⟨w.heap.size, 0, none⟩ = some (.int .i64 L) := H6.out.terms.cell 0; have et1 : w6.cell? ⟨w.heap.size, 1, none⟩ = some (.int .i64 A) := H6.out.terms.cell 1; have ea0 : w6.cell? ⟨ba, 0, none⟩ = some (.int .i64 K) := H6.out.app.cell 0; have ea1 : w6.cell? ⟨ba, 1, none⟩ = some (.int .i64 S) := H6.out.app.cell 1; have ea2 : w6.cell? ⟨ba, 2, none⟩ = some (.int .i64 T) := H6.out.app.cell 2)
            | (go_at_call 23; refine (rdecide_any _ _ _ _ _ _ _ _).mono ?_; generalize hR : moveR L A K S T 2 (if v = true then 4 else 3) d = R; have HR := Lib.hid hR; clear hR; rintro e w7 ⟨rfl, hb7⟩; have H7 := Lib.hid (H6.out.below hb7); have B7 := Lib.hid (B6.out.below hb7); have ft0 : w7.cell? ⟨w.heap.size, 0, none⟩ = some (.int .i64 L) := H7.out.terms.cell 0; have ft1 : w7.cell? ⟨w.heap.size, 1, none⟩ = some (.int .i64 A) := H7.out.terms.cell 1; have fa0 : w7.cell? ⟨ba, 0, none⟩ = some (.int .i64 K) := H7.out.app.cell 0; have fa1 : w7.cell? ⟨ba, 1, none⟩ = some (.int .i64 S) := H7.out.app.cell 1; have fa2 : w7.cell? ⟨ba, 2, none⟩ = some (.int .i64 T) := H7.out.app.cell 2; have faf0 : w7.frozen? ⟨ba, 0, none⟩ = false := H7.out.app.free 0; have faf1 : w7.frozen? ⟨ba, 1, none⟩ = false := H7.out.app.free 1; have faf2 : w7.frozen? ⟨ba, 2, none⟩ = false := H7.out.app.free 2; have fb0 : w7.cell? ⟨bb, 0, none⟩ = some (.int .i64 0) := B7.out.cell 0; have fb1 : w7.cell? ⟨bb, 1, none⟩ = some (.int .i64 0) := B7.out.cell 1; have fb2 : w7.cell? ⟨bb, 2, none⟩ = some (.int .i64 0) := B7.out.cell 2; have fbf0 : w7.frozen? ⟨bb, 0, none⟩ = false := B7.out.free 0; have fbf1 : w7.frozen? ⟨bb, 1, none⟩ = false := B7.out.free 1; have fbf2 : w7.frozen? ⟨bb, 2, none⟩ = false := B7.out.free 2))
          by_cases hE : R.e = 0
          · have hf := fine_move H7.out.fine (g := if v = true then 4 else 3) (.inr ⟨rfl, by cases v <;> simp⟩) (by rw [HR.out]; exact hE)
            rw [HR.out] at hf
            have HF := Lib.hid hf
            clear hf
            go_wp2
            go_roundw
            case rel => exact ⟨k, R.k, R.s, R.t, by first | rfl | (congr 1; omega), by omega, (((H7.out.far bb 0 (.int .i64 R.k) hzge hzne).far bb 1 (.int .i64 R.s) hzge hzne).far bb 2 (.int .i64 R.t) hzge hzne).put HF.out⟩
            case measure => simp [intOf] <;> omega
          · have hE' : (R.e == 0) = false := by simpa using hE
            clear hE
            go_wp2
            go_roundw
            case rel => exact ⟨k, K, S, T, by first | rfl | (congr 1; omega), by omega, ((H7.out.far bb 0 (.int .i64 R.k) hzge hzne).far bb 1 (.int .i64 R.s) hzge hzne).far bb 2 (.int .i64 R.t) hzge hzne⟩
            case measure => simp [intOf] <;> omega
        · have ct0 : w5.cell? ⟨w.heap.size, 0, none⟩ = some (.int .i64 L) := H5.out.terms.cell 0; have ct1 : w5.cell? ⟨w.heap.size, 1, none⟩ = some (.int .i64 A) := H5.out.terms.cell 1; have ca0 : w5.cell? ⟨ba, 0, none⟩ = some (.int .i64 K) := H5.out.app.cell 0; have ca1 : w5.cell? ⟨ba, 1, none⟩ = some (.int .i64 S) := H5.out.app.cell 1; have ca2 : w5.cell? ⟨ba, 2, none⟩ = some (.int .i64 T) := H5.out.app.cell 2; have caf0 : w5.frozen? ⟨ba, 0, none⟩ = false := H5.out.app.free 0; have caf1 : w5.frozen? ⟨ba, 1, none⟩ = false := H5.out.app.free 1; have caf2 : w5.frozen? ⟨ba, 2, none⟩ = false := H5.out.app.free 2; have cb0 : w5.cell? ⟨bb, 0, none⟩ = some (.int .i64 0) := B5.out.cell 0; have cb1 : w5.cell? ⟨bb, 1, none⟩ = some (.int .i64 0) := B5.out.cell 1; have cb2 : w5.cell? ⟨bb, 2, none⟩ = some (.int .i64 0) := B5.out.cell 2; have cbf0 : w5.frozen? ⟨bb, 0, none⟩ = false := B5.out.free 0; have cbf1 : w5.frozen? ⟨bb, 1, none⟩ = false := B5.out.free 1; have cbf2 : w5.frozen? ⟨bb, 2, none⟩ = false := B5.out.free 2
          generalize hR : tickR L A K S T d = R
          have HR := Lib.hid hR
          clear hR
          by_cases hE : R.e = 0
          · have hf := fine_tick H5.out.fine (by rw [HR.out]; exact hE)
            rw [HR.out] at hf
            have HF := Lib.hid hf
            clear hf
            go_wp2_with (go_at_call 24; refine (rtick_any _ _ _ _ _ _ _).mono ?_; rw [HR.out]; rintro e w6 ⟨rfl, hb6⟩; have H6 := Lib.hid (H5.out.below hb6); have B6 := Lib.hid (B5.out.below hb6); have da0 : w6.cell? ⟨ba, 0, none⟩ = some (.int .i64 K) := H6.out.app.cell 0; have da1 : w6.cell? ⟨ba, 1, none⟩ = some (.int .i64 S) := H6.out.app.cell 1; have da2 : w6.cell? ⟨ba, 2, none⟩ = some (.int .i64 T) := H6.out.app.cell 2; have daf0 : w6.frozen? ⟨ba, 0, none⟩ = false := H6.out.app.free 0; have daf1 : w6.frozen? ⟨ba, 1, none⟩ = false := H6.out.app.free 1; have daf2 : w6.frozen? ⟨ba, 2, none⟩ = false := H6.out.app.free 2; have db0 : w6.cell? ⟨bb, 0, none⟩ = some (.int .i64 0) := B6.out.cell 0; have db1 : w6.cell? ⟨bb, 1, none⟩ = some (.int .i64 0) := B6.out.cell 1; have db2 : w6.cell? ⟨bb, 2, none⟩ = some (.int .i64 0) := B6.out.cell 2; have dbf0 : w6.frozen? ⟨bb, 0, none⟩ = false := B6.out.free 0; have dbf1 : w6.frozen? ⟨bb, 1, none⟩ = false := B6.out.free 1; have dbf2 : w6.frozen? ⟨bb, 2, none⟩ = false := B6.out.free 2)
            go_roundw
            case rel => exact ⟨k, R.k, R.s, R.t, by first | rfl | (congr 1; omega), by omega, (((H6.out.far bb 0 (.int .i64 R.k) hzge hzne).far bb 1 (.int .i64 R.s) hzge hzne).far bb 2 (.int .i64 R.t) hzge hzne).put HF.out⟩
            case measure => simp [intOf] <;> omega
          · have hE' : (R.e == 0) = false := by simpa using hE
            clear hE
            go_wp2_with (go_at_call 24; refine (rtick_any _ _ _ _ _ _ _).mono ?_; rw [HR.out]; rintro e w6 ⟨rfl, hb6⟩; have H6 := Lib.hid (H5.out.below hb6); have B6 := Lib.hid (B5.out.below hb6); have da0 : w6.cell? ⟨ba, 0, none⟩ = some (.int .i64 K) := H6.out.app.cell 0; have da1 : w6.cell? ⟨ba, 1, none⟩ = some (.int .i64 S) := H6.out.app.cell 1; have da2 : w6.cell? ⟨ba, 2, none⟩ = some (.int .i64 T) := H6.out.app.cell 2; have daf0 : w6.frozen? ⟨ba, 0, none⟩ = false := H6.out.app.free 0; have daf1 : w6.frozen? ⟨ba, 1, none⟩ = false := H6.out.app.free 1; have daf2 : w6.frozen? ⟨ba, 2, none⟩ = false := H6.out.app.free 2; have db0 : w6.cell? ⟨bb, 0, none⟩ = some (.int .i64 0) := B6.out.cell 0; have db1 : w6.cell? ⟨bb, 1, none⟩ = some (.int .i64 0) := B6.out.cell 1; have db2 : w6.cell? ⟨bb, 2, none⟩ = some (.int .i64 0) := B6.out.cell 2; have dbf0 : w6.frozen? ⟨bb, 0, none⟩ = false := B6.out.free 0; have dbf1 : w6.frozen? ⟨bb, 1, none⟩ = false := B6.out.free 1; have dbf2 : w6.frozen? ⟨bb, 2, none⟩ = false := B6.out.free 2)
            go_roundw
            case rel => exact ⟨k, K, S, T, by first | rfl | (congr 1; omega), by omega, ((H6.out.far bb 0 (.int .i64 R.k) hzge hzne).far bb 1 (.int .i64 R.s) hzge hzne).far bb 2 (.int .i64 R.t) hzge hzne⟩
            case measure => simp [intOf] <;> omega
end Go.Proofs.Ytldhcgihhknmjaa
