/- The walk of AppealEnds: it answers true. -/
import Derived.Test.YtldhcgihhknmjaaDue
import Derived.Deep.RegionHeld3
import Derived.Deep.CutBlock
namespace Go.Proofs.Ytldhcgihhknmjaa
open Go.RowKit

/-- Whatever was done, the appeal is settled behind its terms; a settled one stays. -/
theorem settled_iff {L A K S T : Int} (h : Good L A K S T) : settledB S = false → S = 1 ∨ S = 2 := by
  rcases fine_cases h with ⟨rfl, _⟩ | ⟨rfl, _⟩ | ⟨rfl, _⟩ | ⟨rfl, _⟩ | ⟨rfl, _⟩ <;> simp [settledB]
/-- What a step does: R is what it answers. -/
structure StepOK (L A K S T : Int) (R : Ans) : Prop where
  good : Good L A R.k R.s R.t
  known : R.k = K
  same : R.e ≠ 0 → R = ⟨K, S, T, R.e⟩
  stays : settledB S = true → R.s = S ∧ R.t = T
theorem step_move {L A K S T f g d : Int} (h : Fine L A K S T) (hg : f = 1 ∧ g = 2 ∨ f = 2 ∧ (g = 3 ∨ g = 4)) : StepOK L A K S T (moveR L A K S T f g d) := by
  have hk : (moveR L A K S T f g d).k = K := by
    unfold moveR
    split
    · split
      · rfl
      · split
        · rfl
        · split <;> rfl
    · rfl
  have hs : (moveR L A K S T f g d).e ≠ 0 → moveR L A K S T f g d = ⟨K, S, T, (moveR L A K S T f g d).e⟩ := by
    unfold moveR
    split
    · split
      · intro _; rfl
      · split
        · intro _; rfl
        · split
          · intro _; rfl
          · intro hh; exact absurd rfl hh
    · intro _; rfl
  refine ⟨?_, hk, hs, fun hst => ?_⟩
  · by_cases he : (moveR L A K S T f g d).e = 0
    · have := (fine_move h hg he).1; exact this
    · rw [hs he]; exact h.1
  · have hne : S ≠ f := by
      intro e
      subst e
      rcases hg with ⟨rfl, _⟩ | ⟨rfl, _⟩ <;> simp [settledB] at hst
    unfold moveR
    rw [if_pos h.1, if_pos hne]
    exact ⟨rfl, rfl⟩
theorem step_tick {L A K S T d : Int} (h : Fine L A K S T) : StepOK L A K S T (tickR L A K S T d) := by
  have hk : (tickR L A K S T d).k = K := by
    unfold tickR
    split
    · split
      · rfl
      · split
        · rfl
        · split <;> rfl
    · rfl
  have hs : (tickR L A K S T d).e ≠ 0 → tickR L A K S T d = ⟨K, S, T, (tickR L A K S T d).e⟩ := by
    unfold tickR
    split
    · split
      · intro _; rfl
      · split
        · intro hh; exact absurd rfl hh
        · split
          · intro hh; exact absurd rfl hh
          · intro hh; exact absurd rfl hh
    · intro _; rfl
  refine ⟨?_, hk, hs, fun hst => ?_⟩
  · by_cases he : (tickR L A K S T d).e = 0
    · exact (fine_tick h he).1
    · rw [hs he]; exact h.1
  · have h1 : S ≠ 1 := by rintro rfl; simp [settledB] at hst
    have h2 : S ≠ 2 := by rintro rfl; simp [settledB] at hst
    unfold tickR
    rw [if_pos h.1]
    split
    · exact ⟨rfl, rfl⟩
    · rw [if_neg (fun c => h1 c.1), if_neg (fun c => h2 c.1)]
      exact ⟨rfl, rfl⟩
/-- Two ticks behind the terms settle any appeal. -/
theorem tick_end {L A K S T : Int} (h : Fine L A K S T) (hL : L ≤ 12) (hA : A ≤ 12) : tickR L A K S T (K + L + A + 1) = ⟨K, if S = 1 then 5 else if S = 2 then 4 else S, if S = 1 then K + L + 1 else if S = 2 then T + A else T, 0⟩ := by
  have hl := good_lim h.1
  have hk := h.2
  rcases fine_cases h.1 with ⟨rfl, hT⟩ | ⟨rfl, hT⟩ | ⟨rfl, hT⟩ | ⟨rfl, hT⟩ | ⟨rfl, hT⟩
  · exact tick_open h.1 (by omega) (by omega) (by omega)
  · exact tick_lodged h.1 (by omega) (by omega) (by omega)
  · exact tick_same h.1 (by omega) (by omega) (by omega) (by omega)
  · exact tick_same h.1 (by omega) (by omega) (by omega) (by omega)
  · exact tick_same h.1 (by omega) (by omega) (by omega) (by omega)

/-- The loops' blocks: the terms, the appeal. -/
structure EnRel (w : World) (bt ba : Nat) (L A K S T : Int) (wr : World) : Prop where
  below : Below w.heap.size w wr
  tape : Tape wr w.heap.size
  lt : w.heap.size < ba
  lu : w.heap.size < bt
  nt : bt ≠ ba
  terms : Blk wr bt 26 #[.int .i64 L, .int .i64 A]
  app : Blk wr ba 29 #[.int .i64 K, .int .i64 S, .int .i64 T]
  fine : Fine L A K S T
section
variable {w wx wy : World} {bt ba : Nat} {L A K S T : Int}
theorem EnRel.step (h : EnRel w bt ba L A K S T wx) (hs : Steps1 w.heap.size wx wy) : EnRel w bt ba L A K S T wy :=
  ⟨bos h.below (Nat.le_refl _) hs, hs.now, h.lt, h.lu, h.nt, h.terms.step hs (by have := h.lu; omega), h.app.step hs (by have := h.lt; omega), h.fine⟩
theorem EnRel.down (h : EnRel w bt ba L A K S T wx) (hb : Below wx.heap.size wx wy) : EnRel w bt ba L A K S T wy := h.step (.of_below h.tape hb)
theorem EnRel.drew (h : EnRel w bt ba L A K S T wx) : EnRel w bt ba L A K S T wx.drew := ⟨bdr h.below, h.tape, h.lt, h.lu, h.nt, h.terms, h.app, h.fine⟩
theorem EnRel.alloc (h : EnRel w bt ba L A K S T wx) (o : Obj) : EnRel w bt ba L A K S T (wx.alloc o) := h.down ((Below.refl _ _).alloc (Nat.le_refl _) o)
theorem EnRel.far (h : EnRel w bt ba L A K S T wx) (k o : Nat) (u : Value) (hk : w.heap.size < k) (h1 : bt ≠ k) (h2 : ba ≠ k) : EnRel w bt ba L A K S T (wx.setCell ⟨k, o, none⟩ u) :=
  ⟨bst h.below _ _ _ (by omega), h.tape.keep fun i hi => Below.heap_setCell wx ⟨k, o, none⟩ u i (by show i ≠ k; omega), h.lt, h.lu, h.nt, h.terms.far _ _ _ h1, h.app.far _ _ _ h2, h.fine⟩
theorem EnRel.put {K' S' T' : Int} (h : EnRel w bt ba L A K S T wx) (hf : Fine L A K' S' T') : EnRel w bt ba L A K' S' T' (((wx.setCell ⟨ba, 0, none⟩ (.int .i64 K')).setCell ⟨ba, 1, none⟩ (.int .i64 S')).setCell ⟨ba, 2, none⟩ (.int .i64 T')) :=
  have hk := h.lt
  have keep : ∀ (wz : World) (o : Nat) (u : Value), Tape wz w.heap.size → Tape (wz.setCell ⟨ba, o, none⟩ u) w.heap.size := fun wz o u ht => ht.keep fun i hi => Below.heap_setCell wz ⟨ba, o, none⟩ u i (by show i ≠ ba; omega)
  ⟨bst (bst (bst h.below _ _ _ (by omega)) _ _ _ (by omega)) _ _ _ (by omega), keep _ _ _ (keep _ _ _ (keep _ _ _ h.tape)), h.lt, h.lu, h.nt, ((h.terms.far _ _ _ h.nt).far _ _ _ h.nt).far _ _ _ h.nt, h.app.put3 rfl, hf⟩
end
def EnCut (w : World) (bt : Nat) (L A : Int) (s5 s6 : Value) (wx : World) : Prop := ∃ (ba : Nat) (K : Int), s5 = .pointer (some ⟨ba, 0, none⟩) ∧ s6 = .int .i64 0 ∧ EnRel w bt ba L A K 1 K wx
def EnLoop (w : World) (bt ba : Nat) (L A K : Int) (nv : Value) (wr : World) : Prop := ∃ (n : Nat) (S T : Int), nv = .int .i64 n ∧ n ≤ 8 ∧ EnRel w bt ba L A K S T wr
def EnLoop2 (w : World) (bt ba : Nat) (L A K : Int) (nv : Value) (wr : World) : Prop := ∃ (n : Nat) (S T : Int), nv = .int .i64 n ∧ n ≤ 2 ∧ (1 ≤ n → settledB S = true) ∧ EnRel w bt ba L A K S T wr

structure EnPre (w : World) (bt : Nat) (L A : Int) (wr : World) : Prop where
  below : Below w.heap.size w wr
  tape : Tape wr w.heap.size
  lu : w.heap.size < bt
  terms : Blk wr bt 26 #[.int .i64 L, .int .i64 A]
section
variable {w wx wy : World} {bt : Nat} {L A : Int}
theorem EnPre.step (h : EnPre w bt L A wx) (hs : Steps1 w.heap.size wx wy) : EnPre w bt L A wy := ⟨bos h.below (Nat.le_refl _) hs, hs.now, h.lu, h.terms.step hs (by have := h.lu; omega)⟩
theorem EnPre.down (h : EnPre w bt L A wx) (hb : Below wx.heap.size wx wy) : EnPre w bt L A wy := h.step (.of_below h.tape hb)
theorem EnPre.drew (h : EnPre w bt L A wx) : EnPre w bt L A wx.drew := ⟨bdr h.below, h.tape, h.lu, h.terms⟩
theorem EnPre.alloc (h : EnPre w bt L A wx) (o : Obj) : EnPre w bt L A (wx.alloc o) := h.down ((Below.refl _ _).alloc (Nat.le_refl _) o)
theorem EnPre.far (h : EnPre w bt L A wx) (k o : Nat) (u : Value) (hk : w.heap.size < k) (h1 : bt ≠ k) : EnPre w bt L A (wx.setCell ⟨k, o, none⟩ u) :=
  ⟨bst h.below _ _ _ (by omega), h.tape.keep fun i hi => Below.heap_setCell wx ⟨k, o, none⟩ u i (by show i ≠ k; omega), h.lu, h.terms.far _ _ _ h1⟩
theorem EnPre.rel {ba : Nat} {K S T : Int} (h : EnPre w bt L A wx) (hb : Blk wx ba 29 #[.int .i64 K, .int .i64 S, .int .i64 T]) (h1 : w.heap.size < ba) (h2 : bt ≠ ba) (hf : Fine L A K S T) : EnRel w bt ba L A K S T wx :=
  ⟨h.below, h.tape, h1, h.lu, h2, h.terms, hb, hf⟩
end
/-- Behind the switch: what it answered. -/
def EnMid (w : World) (bt ba bb : Nat) (L A K S T : Int) (s11 : Value) (wx : World) : Prop :=
  ∃ s t c : Int, s11 = .int .i64 c ∧ EnRel w bt ba L A K S T wx ∧ Blk wx bb 29 #[.int .i64 K, .int .i64 s, .int .i64 t] ∧ Good L A K s t ∧ (c ≠ 0 → s = S ∧ t = T) ∧ (settledB S = true → s = S ∧ t = T)
theorem EnMid.of {w : World} {bt ba bb : Nat} {L A K S T : Int} {wx : World} {R : Ans} (h : EnRel w bt ba L A K S T wx) (hb : Blk wx bb 29 #[.int .i64 R.k, .int .i64 R.s, .int .i64 R.t]) (hR : StepOK L A K S T R) :
    EnMid w bt ba bb L A K S T (.int .i64 R.e) wx := by
  have hk := hR.known
  rw [hk] at hb
  refine ⟨R.s, R.t, R.e, rfl, h, hb, hk ▸ hR.good, fun hc => ?_, hR.stays⟩
  have := hR.same hc
  rw [this]
  exact ⟨rfl, rfl⟩
set_option maxRecDepth 100000 in
set_option maxHeartbeats 6000000 in
theorem ends_walk (a0 : Option Addr) (len0 cap0 : Nat) (z0 : List Int) (w : World) (hr : IsRow .i64 w a0 len0 cap0 z0) :
    Calls Try.prog 5 #[.slice a0 len0 cap0] w fun e w' => e = .returned (.bool true) ∧ Below w.heap.size w w' := by
  have R := Lib.hid hr
  clear hr
  go_enter Try.func5, Try.ntmps5
  go_wp2_with fail
  refine (new_any _ _ _ _ _ R.out).mono ?_
  rintro e w1 ⟨rfl, hbw1, hT1⟩
  go_wp2_with fail
  refine (terms_any _ _ hT1).mono ?_; rintro e w2 ⟨L, A, l1, l2, l3, l4, rfl, hs2⟩
  have P0 : EnPre w w2.heap.size L A (w2.alloc (.cells #[.int .i64 L, .int .i64 A] 26)) := ⟨bal (bos hbw1 (Nat.le_refl _) hs2) _, hs2.now.alloc _, hs2.now.lt, Blk.new _ _ _⟩
  have Q0 := Lib.hid P0
  have lt2 := hs2.now.lt
  clear P0 hs2 hbw1 hT1
  have HK : Hid (∀ d : Int, 0 ≤ d → d < 50 → knownR L A d = ⟨d, 1, d, 0⟩) := by
    intro d h0 h1
    unfold knownR
    have hL : TermsOK L A := ⟨by omega, by omega, by omega, by omega⟩
    rw [if_pos hL, if_neg (by omega)]
  go_upto_region 3 with fail
  go_cut [5, 6] (fun s5 s6 wx => EnCut w w2.heap.size L A s5 s6 wx)
  case first =>
    go_region_held3 (fun w' => w'.cell? ⟨w2.heap.size, 0, none⟩ = some (.int .i64 L) ∧ w'.cell? ⟨w2.heap.size, 1, none⟩ = some (.int .i64 A)) (simp [go_sem, *])
      (first
      | (go_at_call 12; refine (next_any _ _ _ (by first | exact Q0.out.drew.tape | exact (Q0.out.alloc _).drew.tape) (by omega) (by omega)).mono ?_; rintro e w4 ⟨d, d1, d2, rfl, hs4⟩; have O1 : EnPre w w2.heap.size L A w4 := (by first | exact Q0.out.drew.step hs4 | exact (Q0.out.alloc _).drew.step hs4); have ct0 : w4.cell? ⟨w2.heap.size, 0, none⟩ = some (.int .i64 L) := O1.terms.cell 0; have ct1 : w4.cell? ⟨w2.heap.size, 1, none⟩ = some (.int .i64 A) := O1.terms.cell 1; have y4 := O1.terms.lt; (try (have B1 := ((Blk.fresh (w := (w2.alloc _)) (g := w2.heap.size + 1) (cs := #[.int .i64 0, .int .i64 0, .int .i64 0]) (by simp)).drew.step hs4 (by omega) : Blk w4 (w2.heap.size + 1) 29 #[.int .i64 0, .int .i64 0, .int .i64 0]); have uc0 : w4.cell? ⟨w2.heap.size + 1, 0, none⟩ = some (.int .i64 0) := B1.cell 0; have uf0 := B1.free 0; have uc1 : w4.cell? ⟨w2.heap.size + 1, 1, none⟩ = some (.int .i64 0) := B1.cell 1; have uf1 := B1.free 1; have uc2 : w4.cell? ⟨w2.heap.size + 1, 2, none⟩ = some (.int .i64 0) := B1.cell 2; have uf2 := B1.free 2)))
      | (go_at_call 25; refine (pknown_any _ _ _ _).mono ?_; rw [HK.out d d1 d2]; rintro e w5 ⟨rfl, hb5⟩; have O2 : EnPre w w2.heap.size L A w5 := (by first | exact O1.down hb5 | exact (O1.alloc _).down hb5); have cu0 : w5.cell? ⟨w2.heap.size, 0, none⟩ = some (.int .i64 L) := O2.terms.cell 0; have cu1 : w5.cell? ⟨w2.heap.size, 1, none⟩ = some (.int .i64 A) := O2.terms.cell 1; have y5 := O2.terms.lt; first | (have B2 := B1.below hb5; have vc0 : w5.cell? ⟨w2.heap.size + 1, 0, none⟩ = some (.int .i64 0) := B2.cell 0; have vf0 := B2.free 0; have vc1 : w5.cell? ⟨w2.heap.size + 1, 1, none⟩ = some (.int .i64 0) := B2.cell 1; have vf1 := B2.free 1; have vc2 : w5.cell? ⟨w2.heap.size + 1, 2, none⟩ = some (.int .i64 0) := B2.cell 2; have vf2 := B2.free 2) | (have B2 := ((Blk.new w4 _ _).below hb5 : Blk w5 w4.heap.size 29 #[.int .i64 0, .int .i64 0, .int .i64 0]); have vc0 : w5.cell? ⟨w4.heap.size, 0, none⟩ = some (.int .i64 0) := B2.cell 0; have vf0 := B2.free 0; have vc1 : w5.cell? ⟨w4.heap.size, 1, none⟩ = some (.int .i64 0) := B2.cell 1; have vf1 := B2.free 1; have vc2 : w5.cell? ⟨w4.heap.size, 2, none⟩ = some (.int .i64 0) := B2.cell 2; have vf2 := B2.free 2) | skip))
    all_goals (go_wp2_with fail)
    all_goals go_meet
    all_goals
      (case rel =>
        first
        | exact ⟨w5.heap.size, d, rfl, rfl, (O2.alloc _).rel (Blk.new w5 _ _) (by omega) (by omega) ⟨good_known ⟨by omega, by omega, by omega, by omega⟩ d1 (by omega), by omega⟩⟩
        | exact ⟨w4.heap.size, d, rfl, rfl, (((O2.far w4.heap.size 0 (.int .i64 d) (by omega) (by omega)).far w4.heap.size 1 (.int .i64 1) (by omega) (by omega)).far w4.heap.size 2 (.int .i64 d) (by omega) (by omega)).rel (B2.put3 rfl) (by omega) (by omega) ⟨good_known ⟨by omega, by omega, by omega, by omega⟩ d1 (by omega), by omega⟩⟩
        | exact ⟨w2.heap.size + 1, d, rfl, rfl, (((O2.far (w2.heap.size + 1) 0 (.int .i64 d) (by omega) (by omega)).far (w2.heap.size + 1) 1 (.int .i64 1) (by omega) (by omega)).far (w2.heap.size + 1) 2 (.int .i64 d) (by omega) (by omega)).rel (B2.put3 rfl) (by omega) (by omega) ⟨good_known ⟨by omega, by omega, by omega, by omega⟩ d1 (by omega), by omega⟩⟩)
  case rest =>
    obtain ⟨ba, K, rfl, rfl, hE⟩ := hcut
    clear HK Q0
    generalize w2.heap.size = bt at *
    have hlu := hE.lu; have hla := hE.lt; have hnt := hE.nt
    have ca0 : wc.cell? ⟨ba, 0, none⟩ = some (.int .i64 K) := hE.app.cell 0
    have E0 := Lib.hid hE
    clear hE
    go_wp2_with fail
    go_loopw [8] (fun nv wr => EnLoop w bt ba L A K nv wr) (fun nv _ => (8 - intOf nv).toNat)
    case atStart => exact ⟨0, 1, K, rfl, by omega, E0.out⟩
    case round =>
      clear E0 ca0
      obtain ⟨n, S, T, rfl, hn, hH⟩ := hrel
      by_cases hlt : n < 8
      · have hp : (n : Int) < 8 := by omega
        have hT := hH.fine.T l2 l4
        have ca2 : wr.cell? ⟨ba, 2, none⟩ = some (.int .i64 T) := hH.app.cell 2
        have H0 := Lib.hid hH
        clear hH
        go_wp2_with fail
        go_region_held3 (fun w' => w'.cell? ⟨ba, 2, none⟩ = some (.int .i64 T)) (simp [go_sem, *])
          (first
          | (go_at_call 12; refine (next_any _ _ _ H0.out.drew.tape (by omega) (by omega)).mono ?_; rintro e w4 ⟨r, r1, r2, rfl, hs4⟩; have H4 := Lib.hid (H0.out.drew.step hs4); have cb2 : w4.cell? ⟨ba, 2, none⟩ = some (.int .i64 T) := H4.out.app.cell 2; have hw : IntKind.i64.wrap (T + r) = T + r := IntWalk.i64_in _ (by omega)))
        clear hw
        obtain ⟨d, hd⟩ : ∃ d : Int, d = T + r := ⟨_, rfl⟩
        rw [← hd]
        clear hd r1 r2 ca2 cb2
        have cb0 : w4.cell? ⟨ba, 0, none⟩ = some (.int .i64 K) := H4.out.app.cell 0; have cb1 : w4.cell? ⟨ba, 1, none⟩ = some (.int .i64 S) := H4.out.app.cell 1; have cb2 : w4.cell? ⟨ba, 2, none⟩ = some (.int .i64 T) := H4.out.app.cell 2
        have hz1 := H4.out.app.lt; have hz2 := H4.out.terms.lt; have hz3 := H4.out.tape.lt
        go_wp2_with fail
        refine (next_any _ _ _ (H4.out.alloc _).tape (by omega) (by omega)).mono ?_
        rintro e w5 ⟨c, c1, c2, rfl, hs5⟩
        have B5 := Lib.hid ((Blk.new w4 29 #[.int .i64 K, .int .i64 S, .int .i64 T]).step hs5 (by omega))
        have H5 := Lib.hid ((H4.out.alloc _).step hs5)
        have hn1 : w.heap.size < w4.heap.size := by omega
        have hn2 : bt ≠ w4.heap.size := by omega
        have hn3 : ba ≠ w4.heap.size := by omega
        clear H4 hs5 H0 hz1 hz2 hz3 cb0 cb1 cb2
        generalize w4.heap.size = bb at *
        go_upto_block 2 with fail
        go_cut [11] (fun s11 wx => EnMid w bt ba bb L A K S T s11 wx)
        case first =>
          have hcc : c = 0 ∨ c = 1 ∨ c = 2 := by omega
          have ct0 : w5.cell? ⟨bt, 0, none⟩ = some (.int .i64 L) := H5.out.terms.cell 0; have ct1 : w5.cell? ⟨bt, 1, none⟩ = some (.int .i64 A) := H5.out.terms.cell 1; have ca0 : w5.cell? ⟨ba, 0, none⟩ = some (.int .i64 K) := H5.out.app.cell 0; have ca1 : w5.cell? ⟨ba, 1, none⟩ = some (.int .i64 S) := H5.out.app.cell 1; have ca2 : w5.cell? ⟨ba, 2, none⟩ = some (.int .i64 T) := H5.out.app.cell 2
          have yb := B5.out.lt
          rcases hcc with rfl | rfl | rfl
          · generalize hR : moveR L A K S T 1 2 d = R
            have hS : StepOK L A K S T R := hR ▸ step_move H5.out.fine (.inl ⟨rfl, rfl⟩)
            have HR := Lib.hid hR
            clear hR
            go_wp2_with (go_at_call 20; refine (plodge_any L A K S T d _).mono ?_; rw [HR.out]; rintro e w6 ⟨rfl, hb6⟩; have H6 := Lib.hid (H5.out.down hb6); have B6 := Lib.hid (B5.out.below hb6); have db0 : w6.cell? ⟨bb, 0, none⟩ = some (.int .i64 K) := B6.out.cell 0; have db1 : w6.cell? ⟨bb, 1, none⟩ = some (.int .i64 S) := B6.out.cell 1; have db2 : w6.cell? ⟨bb, 2, none⟩ = some (.int .i64 T) := B6.out.cell 2; have dbf0 : w6.frozen? ⟨bb, 0, none⟩ = false := B6.out.free 0; have dbf1 : w6.frozen? ⟨bb, 1, none⟩ = false := B6.out.free 1; have dbf2 : w6.frozen? ⟨bb, 2, none⟩ = false := B6.out.free 2)
            go_meet
            case rel => exact .of (((H6.out.far bb 0 (.int .i64 R.k) hn1 hn2 hn3).far bb 1 (.int .i64 R.s) hn1 hn2 hn3).far bb 2 (.int .i64 R.t) hn1 hn2 hn3) (B6.out.put3 rfl) hS
          · go_wp2_with fail
            go_region_held3 (fun w' => w'.cell? ⟨bt, 0, none⟩ = some (.int .i64 L) ∧ w'.cell? ⟨bt, 1, none⟩ = some (.int .i64 A) ∧ w'.cell? ⟨ba, 0, none⟩ = some (.int .i64 K) ∧ w'.cell? ⟨ba, 1, none⟩ = some (.int .i64 S) ∧ w'.cell? ⟨ba, 2, none⟩ = some (.int .i64 T)) (simp [go_sem, *])
              (first
              | (go_at_call 27; refine (one_any _ _ _ H5.out.drew.tape (by omega) (by omega)).mono ?_; rintro e w7 ⟨v, rfl, hs7⟩; have H7 := Lib.hid (H5.out.drew.step hs7); have B7 := Lib.hid (B5.out.drew.step hs7 (by omega)); have et0 : w7.cell? ⟨bt, 0, none⟩ = some (.int .i64 L) := H7.out.terms.cell 0; have et1 : w7.cell? ⟨bt, 1, none⟩ = some (.int .i64 A) := H7.out.terms.cell 1; have ea0 : w7.cell? ⟨ba, 0, none⟩ = some (.int .i64 K) := H7.out.app.cell 0; have ea1 : w7.cell? ⟨ba, 1, none⟩ = some (.int .i64 S) := H7.out.app.cell 1; have ea2 : w7.cell? ⟨ba, 2, none⟩ = some (.int .i64 T) := H7.out.app.cell 2)
              | (go_at_call 22; refine (pdecide_any L A K S T d v _).mono ?_; generalize hR : moveR L A K S T 2 (if v = true then 4 else 3) d = R; have HR := Lib.hid hR; clear hR; rintro e w6 ⟨rfl, hb6⟩; have H6 := Lib.hid (H7.out.down hb6); have B6 := Lib.hid (B7.out.below hb6); have db0 : w6.cell? ⟨bb, 0, none⟩ = some (.int .i64 K) := B6.out.cell 0; have db1 : w6.cell? ⟨bb, 1, none⟩ = some (.int .i64 S) := B6.out.cell 1; have db2 : w6.cell? ⟨bb, 2, none⟩ = some (.int .i64 T) := B6.out.cell 2; have dbf0 : w6.frozen? ⟨bb, 0, none⟩ = false := B6.out.free 0; have dbf1 : w6.frozen? ⟨bb, 1, none⟩ = false := B6.out.free 1; have dbf2 : w6.frozen? ⟨bb, 2, none⟩ = false := B6.out.free 2; have ft0 : w6.cell? ⟨bt, 0, none⟩ = some (.int .i64 L) := H6.out.terms.cell 0; have ft1 : w6.cell? ⟨bt, 1, none⟩ = some (.int .i64 A) := H6.out.terms.cell 1; have fa0 : w6.cell? ⟨ba, 0, none⟩ = some (.int .i64 K) := H6.out.app.cell 0; have fa1 : w6.cell? ⟨ba, 1, none⟩ = some (.int .i64 S) := H6.out.app.cell 1; have fa2 : w6.cell? ⟨ba, 2, none⟩ = some (.int .i64 T) := H6.out.app.cell 2))
            go_wp2_with fail
            go_meet
            case rel => exact .of (((H6.out.far bb 0 (.int .i64 R.k) hn1 hn2 hn3).far bb 1 (.int .i64 R.s) hn1 hn2 hn3).far bb 2 (.int .i64 R.t) hn1 hn2 hn3) (B6.out.put3 rfl) (HR.out ▸ step_move H5.out.fine (.inr ⟨rfl, by cases v <;> simp⟩))
          · generalize hR : tickR L A K S T d = R
            have hS : StepOK L A K S T R := hR ▸ step_tick H5.out.fine
            have HR := Lib.hid hR
            clear hR
            go_wp2_with (go_at_call 10; refine (ptick_any L A K S T d _).mono ?_; rw [HR.out]; rintro e w6 ⟨rfl, hb6⟩; have H6 := Lib.hid (H5.out.down hb6); have B6 := Lib.hid (B5.out.below hb6); have db0 : w6.cell? ⟨bb, 0, none⟩ = some (.int .i64 K) := B6.out.cell 0; have db1 : w6.cell? ⟨bb, 1, none⟩ = some (.int .i64 S) := B6.out.cell 1; have db2 : w6.cell? ⟨bb, 2, none⟩ = some (.int .i64 T) := B6.out.cell 2; have dbf0 : w6.frozen? ⟨bb, 0, none⟩ = false := B6.out.free 0; have dbf1 : w6.frozen? ⟨bb, 1, none⟩ = false := B6.out.free 1; have dbf2 : w6.frozen? ⟨bb, 2, none⟩ = false := B6.out.free 2)
            go_meet
            case rel => exact .of (((H6.out.far bb 0 (.int .i64 R.k) hn1 hn2 hn3).far bb 1 (.int .i64 R.s) hn1 hn2 hn3).far bb 2 (.int .i64 R.t) hn1 hn2 hn3) (B6.out.put3 rfl) hS
        case rest =>
          obtain ⟨s, t, c, rfl, hM, hB, hG, hc1, hs1⟩ := hcut
          clear B5 H5
          have hfin : Fine L A K s t := ⟨hG, hM.fine.2⟩
          have hk := chk_ok hG
          have ct0 : wc.cell? ⟨bt, 0, none⟩ = some (.int .i64 L) := hM.terms.cell 0; have ct1 : wc.cell? ⟨bt, 1, none⟩ = some (.int .i64 A) := hM.terms.cell 1; have ca0 : wc.cell? ⟨ba, 0, none⟩ = some (.int .i64 K) := hM.app.cell 0; have ca1 : wc.cell? ⟨ba, 1, none⟩ = some (.int .i64 S) := hM.app.cell 1; have ca2 : wc.cell? ⟨ba, 2, none⟩ = some (.int .i64 T) := hM.app.cell 2; have caf0 : wc.frozen? ⟨ba, 0, none⟩ = false := hM.app.free 0; have caf1 : wc.frozen? ⟨ba, 1, none⟩ = false := hM.app.free 1; have caf2 : wc.frozen? ⟨ba, 2, none⟩ = false := hM.app.free 2; have cb0 : wc.cell? ⟨bb, 0, none⟩ = some (.int .i64 K) := hB.cell 0; have cb1 : wc.cell? ⟨bb, 1, none⟩ = some (.int .i64 s) := hB.cell 1; have cb2 : wc.cell? ⟨bb, 2, none⟩ = some (.int .i64 t) := hB.cell 2; have cbf0 : wc.frozen? ⟨bb, 0, none⟩ = false := hB.free 0; have cbf1 : wc.frozen? ⟨bb, 1, none⟩ = false := hB.free 1; have cbf2 : wc.frozen? ⟨bb, 2, none⟩ = false := hB.free 2
          have M0 := Lib.hid hM
          have N0 := Lib.hid hB
          have FF := Lib.hid hfin
          have KK := Lib.hid hk
          clear hM hB hG hfin hk
          have hw : settledB S = true ∨ settledB S = false := by cases settledB S <;> simp
          rcases hw with hsb | hsb
          all_goals
            have HSB := Lib.hid hsb
            by_cases hc : c = 0
          · obtain ⟨e1, e2⟩ := hs1 hsb
            subst s; subst t
            subst hc
            clear hc1 hs1 hsb
            go_wp2_with (first | (go_at_call 18; refine (psettled_any K S T _).mono ?_; rw [HSB.out]; rintro e w7 ⟨rfl, hb7⟩; have M7 := Lib.hid (M0.out.down hb7); have N7 := Lib.hid (N0.out.below hb7); have dt0 : w7.cell? ⟨bt, 0, none⟩ = some (.int .i64 L) := M7.out.terms.cell 0; have dt1 : w7.cell? ⟨bt, 1, none⟩ = some (.int .i64 A) := M7.out.terms.cell 1; have da0 : w7.cell? ⟨ba, 0, none⟩ = some (.int .i64 K) := M7.out.app.cell 0; have da1 : w7.cell? ⟨ba, 1, none⟩ = some (.int .i64 S) := M7.out.app.cell 1; have da2 : w7.cell? ⟨ba, 2, none⟩ = some (.int .i64 T) := M7.out.app.cell 2; have daf0 : w7.frozen? ⟨ba, 0, none⟩ = false := M7.out.app.free 0; have daf1 : w7.frozen? ⟨ba, 1, none⟩ = false := M7.out.app.free 1; have daf2 : w7.frozen? ⟨ba, 2, none⟩ = false := M7.out.app.free 2; have db0 : w7.cell? ⟨bb, 0, none⟩ = some (.int .i64 K) := N7.out.cell 0; have db1 : w7.cell? ⟨bb, 1, none⟩ = some (.int .i64 S) := N7.out.cell 1; have db2 : w7.cell? ⟨bb, 2, none⟩ = some (.int .i64 T) := N7.out.cell 2; have dbf0 : w7.frozen? ⟨bb, 0, none⟩ = false := N7.out.free 0; have dbf1 : w7.frozen? ⟨bb, 1, none⟩ = false := N7.out.free 1; have dbf2 : w7.frozen? ⟨bb, 2, none⟩ = false := N7.out.free 2) | (go_at_call 14; refine (pcheck_any L A K S T _).mono ?_; rw [KK.out]; rintro e w8 ⟨rfl, hb8⟩; have M8 := Lib.hid (M7.out.down hb8); have N8 := Lib.hid (N7.out.below hb8); have et0 : w8.cell? ⟨bt, 0, none⟩ = some (.int .i64 L) := M8.out.terms.cell 0; have et1 : w8.cell? ⟨bt, 1, none⟩ = some (.int .i64 A) := M8.out.terms.cell 1; have ea0 : w8.cell? ⟨ba, 0, none⟩ = some (.int .i64 K) := M8.out.app.cell 0; have ea1 : w8.cell? ⟨ba, 1, none⟩ = some (.int .i64 S) := M8.out.app.cell 1; have ea2 : w8.cell? ⟨ba, 2, none⟩ = some (.int .i64 T) := M8.out.app.cell 2; have eaf0 : w8.frozen? ⟨ba, 0, none⟩ = false := M8.out.app.free 0; have eaf1 : w8.frozen? ⟨ba, 1, none⟩ = false := M8.out.app.free 1; have eaf2 : w8.frozen? ⟨ba, 2, none⟩ = false := M8.out.app.free 2; have eb0 : w8.cell? ⟨bb, 0, none⟩ = some (.int .i64 K) := N8.out.cell 0; have eb1 : w8.cell? ⟨bb, 1, none⟩ = some (.int .i64 S) := N8.out.cell 1; have eb2 : w8.cell? ⟨bb, 2, none⟩ = some (.int .i64 T) := N8.out.cell 2; have ebf0 : w8.frozen? ⟨bb, 0, none⟩ = false := N8.out.free 0; have ebf1 : w8.frozen? ⟨bb, 1, none⟩ = false := N8.out.free 1; have ebf2 : w8.frozen? ⟨bb, 2, none⟩ = false := N8.out.free 2))
            go_roundw
            case rel => exact ⟨n + 1, S, T, by go_num, by omega, M8.out.put FF.out⟩
            case measure => simp [intOf]; omega
          · obtain ⟨e1, e2⟩ := hs1 hsb
            subst s; subst t
            have hcb : (c != 0) = true := by simpa using hc
            clear hc1 hs1 hsb hc
            go_wp2_with (first | (go_at_call 18; refine (psettled_any K S T _).mono ?_; rw [HSB.out]; rintro e w7 ⟨rfl, hb7⟩; have M7 := Lib.hid (M0.out.down hb7); have N7 := Lib.hid (N0.out.below hb7); have dt0 : w7.cell? ⟨bt, 0, none⟩ = some (.int .i64 L) := M7.out.terms.cell 0; have dt1 : w7.cell? ⟨bt, 1, none⟩ = some (.int .i64 A) := M7.out.terms.cell 1; have da0 : w7.cell? ⟨ba, 0, none⟩ = some (.int .i64 K) := M7.out.app.cell 0; have da1 : w7.cell? ⟨ba, 1, none⟩ = some (.int .i64 S) := M7.out.app.cell 1; have da2 : w7.cell? ⟨ba, 2, none⟩ = some (.int .i64 T) := M7.out.app.cell 2; have daf0 : w7.frozen? ⟨ba, 0, none⟩ = false := M7.out.app.free 0; have daf1 : w7.frozen? ⟨ba, 1, none⟩ = false := M7.out.app.free 1; have daf2 : w7.frozen? ⟨ba, 2, none⟩ = false := M7.out.app.free 2; have db0 : w7.cell? ⟨bb, 0, none⟩ = some (.int .i64 K) := N7.out.cell 0; have db1 : w7.cell? ⟨bb, 1, none⟩ = some (.int .i64 S) := N7.out.cell 1; have db2 : w7.cell? ⟨bb, 2, none⟩ = some (.int .i64 T) := N7.out.cell 2; have dbf0 : w7.frozen? ⟨bb, 0, none⟩ = false := N7.out.free 0; have dbf1 : w7.frozen? ⟨bb, 1, none⟩ = false := N7.out.free 1; have dbf2 : w7.frozen? ⟨bb, 2, none⟩ = false := N7.out.free 2) | (go_at_call 14; refine (pcheck_any L A K S T _).mono ?_; rw [KK.out]; rintro e w8 ⟨rfl, hb8⟩; have M8 := Lib.hid (M7.out.down hb8); have N8 := Lib.hid (N7.out.below hb8); have et0 : w8.cell? ⟨bt, 0, none⟩ = some (.int .i64 L) := M8.out.terms.cell 0; have et1 : w8.cell? ⟨bt, 1, none⟩ = some (.int .i64 A) := M8.out.terms.cell 1; have ea0 : w8.cell? ⟨ba, 0, none⟩ = some (.int .i64 K) := M8.out.app.cell 0; have ea1 : w8.cell? ⟨ba, 1, none⟩ = some (.int .i64 S) := M8.out.app.cell 1; have ea2 : w8.cell? ⟨ba, 2, none⟩ = some (.int .i64 T) := M8.out.app.cell 2; have eaf0 : w8.frozen? ⟨ba, 0, none⟩ = false := M8.out.app.free 0; have eaf1 : w8.frozen? ⟨ba, 1, none⟩ = false := M8.out.app.free 1; have eaf2 : w8.frozen? ⟨ba, 2, none⟩ = false := M8.out.app.free 2; have eb0 : w8.cell? ⟨bb, 0, none⟩ = some (.int .i64 K) := N8.out.cell 0; have eb1 : w8.cell? ⟨bb, 1, none⟩ = some (.int .i64 S) := N8.out.cell 1; have eb2 : w8.cell? ⟨bb, 2, none⟩ = some (.int .i64 T) := N8.out.cell 2; have ebf0 : w8.frozen? ⟨bb, 0, none⟩ = false := N8.out.free 0; have ebf1 : w8.frozen? ⟨bb, 1, none⟩ = false := N8.out.free 1; have ebf2 : w8.frozen? ⟨bb, 2, none⟩ = false := N8.out.free 2))
            go_roundw
            case rel => exact ⟨n + 1, S, T, by go_num, by omega, M8.out.put FF.out⟩
            case measure => simp [intOf]; omega
          · subst hc
            clear hc1 hs1 hsb
            go_wp2_with (first | (go_at_call 18; refine (psettled_any K S T _).mono ?_; rw [HSB.out]; rintro e w7 ⟨rfl, hb7⟩; have M7 := Lib.hid (M0.out.down hb7); have N7 := Lib.hid (N0.out.below hb7); have dt0 : w7.cell? ⟨bt, 0, none⟩ = some (.int .i64 L) := M7.out.terms.cell 0; have dt1 : w7.cell? ⟨bt, 1, none⟩ = some (.int .i64 A) := M7.out.terms.cell 1; have da0 : w7.cell? ⟨ba, 0, none⟩ = some (.int .i64 K) := M7.out.app.cell 0; have da1 : w7.cell? ⟨ba, 1, none⟩ = some (.int .i64 S) := M7.out.app.cell 1; have da2 : w7.cell? ⟨ba, 2, none⟩ = some (.int .i64 T) := M7.out.app.cell 2; have daf0 : w7.frozen? ⟨ba, 0, none⟩ = false := M7.out.app.free 0; have daf1 : w7.frozen? ⟨ba, 1, none⟩ = false := M7.out.app.free 1; have daf2 : w7.frozen? ⟨ba, 2, none⟩ = false := M7.out.app.free 2; have db0 : w7.cell? ⟨bb, 0, none⟩ = some (.int .i64 K) := N7.out.cell 0; have db1 : w7.cell? ⟨bb, 1, none⟩ = some (.int .i64 s) := N7.out.cell 1; have db2 : w7.cell? ⟨bb, 2, none⟩ = some (.int .i64 t) := N7.out.cell 2; have dbf0 : w7.frozen? ⟨bb, 0, none⟩ = false := N7.out.free 0; have dbf1 : w7.frozen? ⟨bb, 1, none⟩ = false := N7.out.free 1; have dbf2 : w7.frozen? ⟨bb, 2, none⟩ = false := N7.out.free 2) | (go_at_call 14; refine (pcheck_any L A K s t _).mono ?_; rw [KK.out]; rintro e w8 ⟨rfl, hb8⟩; have M8 := Lib.hid (M7.out.down hb8); have N8 := Lib.hid (N7.out.below hb8); have et0 : w8.cell? ⟨bt, 0, none⟩ = some (.int .i64 L) := M8.out.terms.cell 0; have et1 : w8.cell? ⟨bt, 1, none⟩ = some (.int .i64 A) := M8.out.terms.cell 1; have ea0 : w8.cell? ⟨ba, 0, none⟩ = some (.int .i64 K) := M8.out.app.cell 0; have ea1 : w8.cell? ⟨ba, 1, none⟩ = some (.int .i64 S) := M8.out.app.cell 1; have ea2 : w8.cell? ⟨ba, 2, none⟩ = some (.int .i64 T) := M8.out.app.cell 2; have eaf0 : w8.frozen? ⟨ba, 0, none⟩ = false := M8.out.app.free 0; have eaf1 : w8.frozen? ⟨ba, 1, none⟩ = false := M8.out.app.free 1; have eaf2 : w8.frozen? ⟨ba, 2, none⟩ = false := M8.out.app.free 2; have eb0 : w8.cell? ⟨bb, 0, none⟩ = some (.int .i64 K) := N8.out.cell 0; have eb1 : w8.cell? ⟨bb, 1, none⟩ = some (.int .i64 s) := N8.out.cell 1; have eb2 : w8.cell? ⟨bb, 2, none⟩ = some (.int .i64 t) := N8.out.cell 2; have ebf0 : w8.frozen? ⟨bb, 0, none⟩ = false := N8.out.free 0; have ebf1 : w8.frozen? ⟨bb, 1, none⟩ = false := N8.out.free 1; have ebf2 : w8.frozen? ⟨bb, 2, none⟩ = false := N8.out.free 2))
            go_roundw
            case rel => exact ⟨n + 1, s, t, by go_num, by omega, M8.out.put FF.out⟩
            case measure => simp [intOf]; omega
          · obtain ⟨e1, e2⟩ := hc1 hc
            subst s; subst t
            have hcb : (c != 0) = true := by simpa using hc
            clear hc1 hs1 hsb hc
            go_wp2_with (first | (go_at_call 18; refine (psettled_any K S T _).mono ?_; rw [HSB.out]; rintro e w7 ⟨rfl, hb7⟩; have M7 := Lib.hid (M0.out.down hb7); have N7 := Lib.hid (N0.out.below hb7); have dt0 : w7.cell? ⟨bt, 0, none⟩ = some (.int .i64 L) := M7.out.terms.cell 0; have dt1 : w7.cell? ⟨bt, 1, none⟩ = some (.int .i64 A) := M7.out.terms.cell 1; have da0 : w7.cell? ⟨ba, 0, none⟩ = some (.int .i64 K) := M7.out.app.cell 0; have da1 : w7.cell? ⟨ba, 1, none⟩ = some (.int .i64 S) := M7.out.app.cell 1; have da2 : w7.cell? ⟨ba, 2, none⟩ = some (.int .i64 T) := M7.out.app.cell 2; have daf0 : w7.frozen? ⟨ba, 0, none⟩ = false := M7.out.app.free 0; have daf1 : w7.frozen? ⟨ba, 1, none⟩ = false := M7.out.app.free 1; have daf2 : w7.frozen? ⟨ba, 2, none⟩ = false := M7.out.app.free 2; have db0 : w7.cell? ⟨bb, 0, none⟩ = some (.int .i64 K) := N7.out.cell 0; have db1 : w7.cell? ⟨bb, 1, none⟩ = some (.int .i64 S) := N7.out.cell 1; have db2 : w7.cell? ⟨bb, 2, none⟩ = some (.int .i64 T) := N7.out.cell 2; have dbf0 : w7.frozen? ⟨bb, 0, none⟩ = false := N7.out.free 0; have dbf1 : w7.frozen? ⟨bb, 1, none⟩ = false := N7.out.free 1; have dbf2 : w7.frozen? ⟨bb, 2, none⟩ = false := N7.out.free 2) | (go_at_call 14; refine (pcheck_any L A K S T _).mono ?_; rw [KK.out]; rintro e w8 ⟨rfl, hb8⟩; have M8 := Lib.hid (M7.out.down hb8); have N8 := Lib.hid (N7.out.below hb8); have et0 : w8.cell? ⟨bt, 0, none⟩ = some (.int .i64 L) := M8.out.terms.cell 0; have et1 : w8.cell? ⟨bt, 1, none⟩ = some (.int .i64 A) := M8.out.terms.cell 1; have ea0 : w8.cell? ⟨ba, 0, none⟩ = some (.int .i64 K) := M8.out.app.cell 0; have ea1 : w8.cell? ⟨ba, 1, none⟩ = some (.int .i64 S) := M8.out.app.cell 1; have ea2 : w8.cell? ⟨ba, 2, none⟩ = some (.int .i64 T) := M8.out.app.cell 2; have eaf0 : w8.frozen? ⟨ba, 0, none⟩ = false := M8.out.app.free 0; have eaf1 : w8.frozen? ⟨ba, 1, none⟩ = false := M8.out.app.free 1; have eaf2 : w8.frozen? ⟨ba, 2, none⟩ = false := M8.out.app.free 2; have eb0 : w8.cell? ⟨bb, 0, none⟩ = some (.int .i64 K) := N8.out.cell 0; have eb1 : w8.cell? ⟨bb, 1, none⟩ = some (.int .i64 S) := N8.out.cell 1; have eb2 : w8.cell? ⟨bb, 2, none⟩ = some (.int .i64 T) := N8.out.cell 2; have ebf0 : w8.frozen? ⟨bb, 0, none⟩ = false := N8.out.free 0; have ebf1 : w8.frozen? ⟨bb, 1, none⟩ = false := N8.out.free 1; have ebf2 : w8.frozen? ⟨bb, 2, none⟩ = false := N8.out.free 2))
            go_roundw
            case rel => exact ⟨n + 1, S, T, by go_num, by omega, M8.out.put FF.out⟩
            case measure => simp [intOf]; omega
      · have hn8 : n = 8 := by omega
        subst hn8
        have hq : ¬ ((8 : Nat) : Int) < 8 := by omega
        have ca : True := trivial
        have H0 := Lib.hid hH
        clear hH hlt
        go_wp2_with fail
        go_loopw [12] (fun nv wr => EnLoop2 w bt ba L A K nv wr) (fun nv _ => (2 - intOf nv).toNat)
        case atStart => exact ⟨0, S, T, rfl, by omega, by omega, H0.out⟩
        case round =>
          clear H0 ca
          obtain ⟨n, S, T, rfl, hn, hset, hH⟩ := hrel
          by_cases hlt : n < 2
          · have hp : (n : Int) < 2 := by omega
            have hl := good_lim hH.fine.1; have hk9 := hH.fine.2
            have hte := tick_end hH.fine l2 l4
            have hff := fine_tick hH.fine (d := K + L + A + 1) (by rw [hte])
            rw [hte] at hff
            have hss : settledB (if S = 1 then 5 else if S = 2 then 4 else S) = true := by rcases fine_cases hH.fine.1 with ⟨rfl, _⟩ | ⟨rfl, _⟩ | ⟨rfl, _⟩ | ⟨rfl, _⟩ | ⟨rfl, _⟩ <;> rfl
            generalize (if S = 1 then 5 else if S = 2 then 4 else S) = s at hte hff hss
            generalize (if S = 1 then K + L + 1 else if S = 2 then T + A else T) = t at hte hff
            have ct0 : wr.cell? ⟨bt, 0, none⟩ = some (.int .i64 L) := hH.terms.cell 0; have ct1 : wr.cell? ⟨bt, 1, none⟩ = some (.int .i64 A) := hH.terms.cell 1; have ca0 : wr.cell? ⟨ba, 0, none⟩ = some (.int .i64 K) := hH.app.cell 0; have ca1 : wr.cell? ⟨ba, 1, none⟩ = some (.int .i64 S) := hH.app.cell 1; have ca2 : wr.cell? ⟨ba, 2, none⟩ = some (.int .i64 T) := hH.app.cell 2
            have HT := Lib.hid hte
            have HF := Lib.hid hff
            have HS := Lib.hid hss
            have H0 := Lib.hid hH
            clear hte hff hss hH hset
            go_wp2_with (go_at_call 10; refine (ptick_any L A K S T (K + L + A + 1) _).mono ?_; rw [HT.out]; rintro e w9 ⟨rfl, hb9⟩; have H9 := Lib.hid (H0.out.down hb9); have y9 := H9.out.app.lt; have da0 : w9.cell? ⟨ba, 0, none⟩ = some (.int .i64 K) := H9.out.app.cell 0; have da1 : w9.cell? ⟨ba, 1, none⟩ = some (.int .i64 S) := H9.out.app.cell 1; have da2 : w9.cell? ⟨ba, 2, none⟩ = some (.int .i64 T) := H9.out.app.cell 2; have daf0 : w9.frozen? ⟨ba, 0, none⟩ = false := H9.out.app.free 0; have daf1 : w9.frozen? ⟨ba, 1, none⟩ = false := H9.out.app.free 1; have daf2 : w9.frozen? ⟨ba, 2, none⟩ = false := H9.out.app.free 2)
            go_roundw
            case rel => exact ⟨n + 1, s, t, by go_num, by omega, fun _ => HS.out, (H9.out.put HF.out).alloc _⟩
            case measure => simp [intOf]; omega
          · have hn2 : n = 2 := by omega
            subst hn2
            have hq : ¬ ((2 : Nat) : Int) < 2 := by omega
            have hst := hset (by omega)
            have ca0 : wr.cell? ⟨ba, 0, none⟩ = some (.int .i64 K) := hH.app.cell 0; have ca1 : wr.cell? ⟨ba, 1, none⟩ = some (.int .i64 S) := hH.app.cell 1; have ca2 : wr.cell? ⟨ba, 2, none⟩ = some (.int .i64 T) := hH.app.cell 2
            have HS := Lib.hid hst
            have H0 := Lib.hid hH
            clear hst hset hH hlt
            go_wp2_with (first | (go_at_call 18; refine (psettled_any K S T _).mono ?_; rw [HS.out]; rintro e w7 ⟨rfl, hb7⟩) | (go_at_call 11; refine (awake_any _).mono ?_; rintro e wz ⟨rfl, hbz⟩))
            go_ret
            exact ⟨rfl, btr (btr H0.out.below hb7) hbz⟩

end Go.Proofs.Ytldhcgihhknmjaa
