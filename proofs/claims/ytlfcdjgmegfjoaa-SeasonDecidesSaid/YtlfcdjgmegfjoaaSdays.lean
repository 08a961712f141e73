/- The iterator over the days of a phase, with the bounds of a right series: its contract. -/
import Derived.Test.YtlfcdjgmegfjoaaSph
import Derived.RangeFuncNested
import Derived.RangeFuncBound
import Derived.RangeFuncCalls
import Derived.RangeFuncLeaves
import Derived.Shelf.Abstract
import Derived.Shelf.RegionOpen
import Derived.OwnWalkIn
import Derived.TacticsInMore
import Derived.LoopNIn
import Derived.LoopIn
namespace Go.Proofs.Ytlfcdjgmegfjoaa
open Go.RowKit Go.Shelf
set_option linter.unusedVariables false
attribute [local go_sem] Oper.semAt_some

def upto {α : Type} (f : Nat → α) (k : Nat) : List α := (List.range k).map f
theorem upto_succ {α : Type} (f : Nat → α) (k : Nat) : upto f (k + 1) = upto f k ++ [f k] := by simp [upto, List.range_succ]
theorem upto_length {α : Type} (f : Nat → α) (k : Nat) : (upto f k).length = k := by simp [upto]

/-- What a round that goes on keeps: what lay below m, and two blocks more. -/
def KeepB (m b1 b2 : Nat) (W W' : World) : Prop := W.heap.size ≤ W'.heap.size ∧ ∀ k, k < m ∨ k = b1 ∨ k = b2 → W'.heap[k]? = W.heap[k]?
theorem KeepB.trans {m b1 b2 : Nat} {A B C : World} (h : KeepB m b1 b2 A B) (k : KeepB m b1 b2 B C) : KeepB m b1 b2 A C := ⟨Nat.le_trans h.1 k.1, fun i hi => (k.2 i hi).trans (h.2 i hi)⟩
theorem KeepB.refl {m b1 b2 : Nat} (A : World) : KeepB m b1 b2 A A := ⟨Nat.le_refl _, fun _ _ => rfl⟩
theorem KeepB.below {m b1 b2 : Nat} {A B : World} (hm : m ≤ A.heap.size) (h1 : b1 < A.heap.size) (h2 : b2 < A.heap.size) (h : Below A.heap.size A B) : KeepB m b1 b2 A B :=
  ⟨h.size, fun k hk => h.block k (by rcases hk with h | rfl | rfl <;> omega)⟩
theorem KeepB.blk {m b1 b2 g : Nat} {t : TypeId} {cs : Array Value} {A B : World} (h : KeepB m b1 b2 A B) (hb : Blk A g t cs) (hg : g < m ∨ g = b1 ∨ g = b2) : Blk B g t cs := (h.2 g hg).trans hb
/-- The observations lie below m. -/
def SerB (m : Nat) (w : World) (a : Option Addr) (l : List (Int × Int)) : Prop := Ser w a l ∧ ∀ b off : Nat, a = some ⟨b, off, none⟩ → 0 < l.length → b < m
theorem SerB.keep {m b1 b2 : Nat} {A B : World} {a : Option Addr} {l : List (Int × Int)} (h : SerB m A a l) (hk : KeepB m b1 b2 A B) : SerB m B a l :=
  ⟨fun j hj => by
    obtain ⟨b, off, e, c0, c1⟩ := h.1 j hj
    have hb := h.2 b off e (by omega)
    exact ⟨b, off, e, (World.cell?_of_block (w := A) (a := ⟨b, off + j * 2, none⟩) (hk.2 b (.inl hb))).trans c0, (World.cell?_of_block (w := A) (a := ⟨b, off + j * 2 + 1, none⟩) (hk.2 b (.inl hb))).trans c1⟩, h.2⟩

def dayEnc (s : Int) (l : List (Int × Int)) (d : Int) : Array Value := #[.int .i64 d, .agg #[.int .i64 (lowB s l d), .int .i64 (highB s l d)]]

def DaysPost (f : Int) (N : Nat) (J Jx : List Int → World → Prop) (e : Ending) (W' : World) : Prop :=
  (∃ v, e = .returned v) ∧ ((∃ ys, ys = upto (fun j : Nat => f + (j : Int)) N ∧ J ys W') ∨ (∃ pre, (∃ k, k ≤ N ∧ pre = upto (fun j : Nat => f + (j : Int)) k) ∧ Jx pre W'))

set_option maxRecDepth 100000 in
set_option maxHeartbeats 2000000 in
theorem days1_in (n : Nat) (hn : 1 ≤ n) (L Bp Bs m : Nat) (s : Int) (a : Option Addr) (len cap : Nat) (l : List (Int × Int)) (hl : l.length = len) (hR : chkS s l = 0) (k0 f u v : Int) (hf : 0 ≤ f) (hfu : f ≤ u) (hu : dayOK u) (J Jx : List Int → World → Prop)
    (hY : ∀ pre x W, J pre W → pre.length < (u + 1 - f).toNat → YieldAt Fence.wide (n - 1) Try.prog L (dayEnc s l x) W fun e W' =>
      (e = .returned (.bool true) ∧ J (pre ++ [x]) W' ∧ KeepB m Bp Bs W W') ∨ (e = .returned (.bool false) ∧ Jx (pre ++ [x]) W'))
    (W : World) (hAb : AbidesFrom W.heap.size J) (hm : m ≤ W.heap.size) (hBp : Blk W Bp 27 #[.int .i64 k0, .int .i64 f, .int .i64 u, .int .i64 v]) (hBs : Blk W Bs 25 #[.int .i64 s, .slice a len cap]) (hS : SerB m W a l) (h0 : J [] W) :
    CallsIn Fence.wide n Try.prog 40 #[.func (.yield L) #[] #[], .pointer (some ⟨Bp, 0, none⟩), .pointer (some ⟨Bs, 0, none⟩)] W (DaysPost f (u + 1 - f).toNat J Jx) := by
  have hu1 := hu.1; have hu2 := hu.2
  have hp1 : W.cell? ⟨Bp, 1, none⟩ = some (.int .i64 f) := hBp.cell 1
  have BP := Lib.hid hBp; have BS := Lib.hid hBs; have SS := Lib.hid hS; have HL := Lib.hid hl; have HR := Lib.hid hR; have JJ := Lib.hid h0; have AB := Lib.hid hAb; have YY := Lib.hid hY
  clear hBp hBs hS hl hR h0 hAb hY hu
  refine callsIn_of_wp Try.func40 rfl trivial ?_ rfl
  simp only [Try.ntmps40, List.size_toArray, List.length_cons, List.length_nil, Nat.reduceAdd, Nat.reduceSub, Array.replicate_succ, Array.replicate_zero, List.push_toArray, List.append_toArray, List.nil_append, List.cons_append]
  gi_wp2
  gi_loopw [4] (fun i wr => ∃ k : Nat, k ≤ (u + 1 - f).toNat ∧ i = .int .i64 (f + k) ∧ J (upto (fun j => f + (j : Int)) k) wr ∧ KeepB m Bp Bs W wr)
    (fun i _ => (u + 1 - intOf i).toNat)
  case atStart => exact ⟨0, Nat.zero_le _, by simp, JJ.out, KeepB.refl _⟩
  case round =>
    clear JJ hp1
    obtain ⟨k, hk, rfl, hJs, hK⟩ := hrel
    have hm' : m ≤ wr.heap.size := Nat.le_trans hm hK.1
    have BPr := Lib.hid (hK.blk BP.out (.inr (.inl rfl))); have BSr := Lib.hid (hK.blk BS.out (.inr (.inr rfl))); have SSr := Lib.hid (SS.out.keep hK)
    have c2 : wr.cell? ⟨Bp, 2, none⟩ = some (.int .i64 u) := BPr.out.cell 2
    have s0 : wr.cell? ⟨Bs, 0, none⟩ = some (.int .i64 s) := BSr.out.cell 0
    have s1 : wr.cell? ⟨Bs, 1, none⟩ = some (.slice a len cap) := BSr.out.cell 1
    have JJ := Lib.hid hJs; have KK := Lib.hid hK
    clear hJs hK
    by_cases hlt : f + (k : Int) ≤ u
    · have hd : dayOK (f + (k : Int)) := ⟨by omega, by omega⟩
      have HD := Lib.hid hd
      clear hd
      gi_wp2_with (refine ⟨trivial, ?_⟩; gi_at_call 35; refine (callsIn_wide.2 (pbounds_any s a len cap l wr SSr.out.1 HL.out HR.out (f + k) HD.out)).mono ?_; rintro e w1 ⟨rfl, hb1⟩)
      have hJ1 : J (upto (fun j : Nat => f + (j : Int)) k) w1 := AB.out _ wr w1 none JJ.out ⟨hb1.os, hb1.tape, hb1.output, hb1.size, fun i hi _ => hb1.block i hi⟩ (fun r e => by cases e)
      obtain ⟨fn, tmps, assign, body, hy, hR⟩ := YY.out _ (f + (k : Int)) w1 hJ1 (by rw [upto_length]; omega)
      dsimp only [dayEnc] at hy
      have hKb : KeepB m Bp Bs wr w1 := .below hm' BPr.out.lt BSr.out.lt hb1
      have HKb := Lib.hid hKb
      clear hKb hJ1
      gi_wp2
      rw [hy]
      gi_wp2
      refine hR.mono ?_
      rintro e W3 (⟨rfl, hJ3, hk3⟩ | ⟨rfl, hJx3⟩)
      · have H3 := Lib.hid hJ3
        have K3 := Lib.hid hk3
        clear hJ3 hk3 hy
        gi_wp2
        go_roundw
        case rel => exact ⟨k + 1, by omega, by congr 1; omega, by rw [upto_succ]; exact H3.out, KK.out.trans (HKb.out.trans K3.out)⟩
        case measure => simp [intOf]; omega
      · have H3 := Lib.hid hJx3
        clear hJx3 hy
        gi_wp2
        refine bodyPost_ret (results_none rfl _ _ _) rfl ?_
        exact ⟨⟨_, rfl⟩, .inr ⟨_, ⟨k + 1, by omega, (upto_succ _ _).symm⟩, H3.out⟩⟩
    · have hkk : k = (u + 1 - f).toNat := by omega
      gi_wp2
      go_end0
      exact ⟨⟨_, rfl⟩, .inl ⟨_, rfl, hkk ▸ JJ.out⟩⟩
end Go.Proofs.Ytlfcdjgmegfjoaa
