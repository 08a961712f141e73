/- The law on limits. -/
import Derived.Test.YtglhenobodndjaaGreatDoorLim
namespace Go.Proofs.YtglhenobodndjaaGreatDoor
open Go.RowKit
set_option linter.unusedVariables false
set_option linter.unusedSimpArgs false

/-- So many events of the fourth day. -/
def es4 (k : Nat) : List (List Value × ByteArray) := List.replicate k (lightL (dayE (4 : Nat)), day4)
theorem es4_succ (k : Nat) : es4 (k + 1) = es4 k ++ [(lightL (dayE (4 : Nat)), day4)] := List.replicate_succ'
theorem outL_es4 (k : Nat) : (outL (es4 k)).length = 6 * k := by
  induction k with
  | zero => rfl
  | succ k ih => rw [es4_succ]; unfold outL at ih ⊢; rw [List.flatMap_append, List.length_append, ih]; simp [day4]; omega
theorem text_succ (k : Nat) : (⟨(outL (es4 k)).toArray⟩ ++ ⟨#[100, 97, 121, 32, 52, 10]⟩ : ByteArray) = ⟨(outL (es4 (k + 1))).toArray⟩ := by
  rw [es4_succ]
  unfold outL
  rw [List.flatMap_append]
  apply ByteArray.ext
  simp [day4]
theorem cells_succ (k : Nat) : cellsOf Prod.fst (es4 (k + 1)) = cellsOf Prod.fst (es4 k) ++ lightL (dayE (4 : Nat)) := by
  rw [es4_succ]; simp [cellsOf]
theorem mem4 {k : Nat} {p : List Value × ByteArray} (h : p ∈ es4 k) : p = (lightL (dayE (4 : Nat)), day4) := List.eq_of_mem_replicate h
theorem parK (w : World) (hS : w.ShapedOpen Tryz.prog) (k : Nat) (hk : k ≤ 202) (T : ByteArray) (hT : T = ⟨(outL (es4 k)).toArray⟩) : Calls Tryz.prog 21 #[.string T] w (ParseP w (es4 k)) := by
  refine parse_any w (es4 k) k T hS hT (by simp [es4]) (fun p hp => ?_) (fun p hp => ?_) (fun p hp => ?_) (by omega) ?_
  · rw [mem4 hp]; exact light_ok _ _
  · rw [mem4 hp]; exact ev4 w hS
  · rw [mem4 hp]; decide
  · have := outL_es4 k
    rw [hT]
    simp [ByteArray.size]
    omega
theorem prnK (w : World) (hS : w.ShapedOpen Tryz.prog) (k : Nat) (hk : k ≤ 200) (a : Option Addr) (c : Nat) (hV : Vw w a (cellsOf Prod.fst (es4 k))) : Calls Tryz.prog 19 #[.slice a k c] w fun e w' => e = .returned (.tuple #[.string ⟨(outL (es4 k)).toArray⟩, .int .i64 0]) ∧ Below w.heap.size w w' := by
  refine print_ok w a k c (es4 k) hV (by simp [es4]) (fun p hp => ?_) (fun p hp => ?_) hk (by have := outL_es4 k; omega)
  · rw [mem4 hp]; exact light_ok _ _
  · rw [mem4 hp]; exact ln4 w hS
set_option maxRecDepth 100000 in
set_option maxHeartbeats 8000000 in
theorem limits_ok (w : World) (hS : w.ShapedOpen Tryz.prog) (n : Int) (h0 : 0 ≤ n) (h1 : n ≤ 255) : Calls Tryz.prog 6 #[.int .u8 n] w fun e w' => e = .returned (.bool true) ∧ Below w.heap.size w w' := by
  have HS := Lib.hid hS
  clear hS
  go_enter Tryz.func6, Tryz.ntmps6
  go_wp2
  obtain ⟨K, hK, k1, k2⟩ : ∃ K : Nat, 197 + n % 6 = (K : Int) ∧ 197 ≤ K ∧ K ≤ 202 := ⟨(197 + n % 6).toNat, by omega, by omega, by omega⟩
  rw [hK]
  clear hK
  go_loopw [4, 5, 6] (fun l t i wr => ∃ k : Nat, k ≤ K ∧ i = .int .i64 k ∧ t = .string ⟨(outL (es4 k)).toArray⟩ ∧ wr.ownsRow w.heap.size 36 23 l k (cellsOf Prod.fst (es4 k)) ∧ Below w.heap.size w wr) (fun _ _ i _ => K - (intOf i).toNat)
  case atStart => exact ⟨0, Nat.zero_le _, rfl, rfl, World.ownsRow_nil _ _ _ _, Below.refl _ _⟩
  case round =>
    obtain ⟨k, hk, rfl, rfl, ho, hb⟩ := hrel
    have HO := Lib.hid ho; have HB := Lib.hid hb
    have yw := hb.size
    obtain ⟨a4, c4, rfl, -, -, -⟩ := own_form ho
    clear ho hb
    obtain ⟨T, hT⟩ : ∃ T : ByteArray, (⟨(outL (es4 k)).toArray⟩ : ByteArray) = T := ⟨_, rfl⟩
    have hTs : T.size + 6 ≤ 2000 := by rw [← hT]; have := outL_es4 k; simp [ByteArray.size]; omega
    have HT := Lib.hid hT
    rw [hT]
    clear hT
    by_cases hlt : k < K
    · have HO4 : RowKit.Hid ((wr.alloc (.cells (lightL (dayE (4 : Nat))).toArray 36)).ownsRow w.heap.size 36 23 (.slice a4 k c4) k (cellsOf Prod.fst (es4 k))) := Lib.hid (own_keep HO.out (by (repeat (with_reducible first | exact Below.refl _ _ | refine bdr ?_ | refine bdn ?_ _ | refine bal ?_ _))))
      have yB2 : w.heap.size ≤ (wr.alloc (.cells (lightL (dayE (4 : Nat))).toArray 36)).heap.size := by simp; omega
      have HBD : RowKit.Hid ((k + 1) * 232 ≤ 140737488355328) := Lib.hid (by omega)
      go_wp2_with (first
        | (refine bs_one elEv (by decide) rfl (.tmp 22) rfl (lightL (dayE (4 : Nat))).toArray rfl rfl ?_)
        | (at_builtin; refine app_list elEv rfl _ _ rfl w.heap.size _ k (cellsOf Prod.fst (es4 k)) rfl HO4.out _ 1 _ (lightL (dayE (4 : Nat))) rfl (vw_src _ _ rfl rfl) nofun rfl (oneL (light_ok _ day4).2) HBD.out yB2 ?_; intro v2 w4 hown4 hg4 hat4))
      rw [← cells_succ] at hown4
      have hb4 := below_app HO4.out (btr HB.out (by (repeat (with_reducible first | exact Below.refl _ _ | refine bdr ?_ | refine bdn ?_ _ | refine bal ?_ _)))) hg4
      go_roundw
      case rel => exact ⟨k + 1, by omega, by go_num, by rw [← HT.out, text_succ], hown4, hb4⟩
      case measure => simp [intOf]; omega
    · obtain rfl : k = K := by omega
      have hlen : (es4 k).length = k := by simp [es4]
      have HAW : RowKit.Hid (∀ W, Below w.heap.size w W → Calls Tryz.prog 7 #[] W fun e w' => e = .returned (.bool true) ∧ Below W.heap.size W w') := fun W hW => awake_ok W (shaped_below HS.out hW)
      have HPA : RowKit.Hid (∀ W, Below w.heap.size w W → Calls Tryz.prog 21 #[.string T] W (ParseP W (es4 k))) := fun W hW => parK W (shaped_below HS.out hW) k k2 T HT.out.symm
      by_cases h200 : k ≤ 200
      · have HPR : RowKit.Hid (Calls Tryz.prog 19 #[.slice a4 k c4] wr fun e w' => e = .returned (.tuple #[.string T, .int .i64 0]) ∧ Below wr.heap.size wr w') := by
          have h := prnK wr (shaped_below HS.out HB.out) k h200 a4 c4 (vw_of_own HO.out)
          rw [HT.out] at h
          exact h
        have HPA2 : RowKit.Hid (∀ W, Below w.heap.size w W → Calls Tryz.prog 21 #[.string T] W fun e w' => ∃ a c, e = .returned (.tuple #[.slice a k c, .int .i64 0, .int .i64 0]) ∧ Below W.heap.size W w') := fun W hW => (HPA.out W hW).mono fun e w' h => by
          unfold ParseP at h
          rw [if_pos (by omega), hlen] at h
          obtain ⟨a, c, h1, -, -, h2⟩ := h
          exact ⟨a, c, h1, h2⟩
        have q1 : ¬ (k : Int) > 200 := by omega
        have q2 : ¬ (200 : Int) < (k : Int) := by omega
        clear hlen HPA
        go_wp2_with (first
          | (go_at_call 19; refine HPR.out.mono ?_; rintro e w2 ⟨rfl, hb2⟩; have HB2 := Lib.hid (btr HB.out hb2))
          | (go_at_call 21; refine (HPA2.out _ HB2.out).mono ?_; rintro e w3 ⟨a3, c3, rfl, hb3⟩; have HB3 := Lib.hid (btr HB2.out hb3))
          | (go_at_call 7; refine (HAW.out _ HB3.out).mono ?_; rintro e w4 ⟨rfl, hb4⟩))
        go_ret
        exact ⟨rfl, btr HB3.out hb4⟩
      · have HPR : RowKit.Hid (∀ W, Calls Tryz.prog 19 #[.slice a4 k c4] W fun e w' => e = .returned (.tuple #[.string ⟨#[]⟩, .int .i64 1]) ∧ w' = W) := fun W => print_lim W a4 k c4 (by omega) (by omega)
        have HPA2 : RowKit.Hid (∀ W, Below w.heap.size w W → Calls Tryz.prog 21 #[.string T] W fun e w' => e = .returned (.tuple #[.slice none 0 0, .int .i64 201, .int .i64 1]) ∧ Below W.heap.size W w') := fun W hW => (HPA.out W hW).mono fun e w' h => by
          unfold ParseP at h
          rw [if_neg (by omega)] at h
          exact h
        have q1 : (k : Int) > 200 := by omega
        have q2 : (200 : Int) < (k : Int) := by omega
        clear hlen HPA
        go_wp2_with (first
          | (go_at_call 19; refine (HPR.out _).mono ?_; rintro e w2 ⟨rfl, rfl⟩)
          | (go_at_call 21; refine (HPA2.out _ HB.out).mono ?_; rintro e w3 ⟨rfl, hb3⟩; have HB3 := Lib.hid (btr HB.out hb3))
          | (go_at_call 7; refine (HAW.out _ HB3.out).mono ?_; rintro e w4 ⟨rfl, hb4⟩))
        go_ret
        exact ⟨rfl, btr HB3.out hb4⟩
end Go.Proofs.YtglhenobodndjaaGreatDoor
