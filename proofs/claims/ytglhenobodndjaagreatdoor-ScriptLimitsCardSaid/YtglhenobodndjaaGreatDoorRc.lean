/- Regions: bands as rectangles; the sizes of rectangles. -/
import Derived.Test.YtglhenobodndjaaGreatDoorApp
namespace Go.Proofs.YtglhenobodndjaaGreatDoor
open Go.RowKit Go.Sort
set_option linter.unusedVariables false
set_option linter.unusedSimpArgs false

/-- A band in memory: its rows, its spans' slice. -/
structure Bn where
  lo : Int
  hi : Int
  a : Option Addr
  m : Nat
  c : Nat
  sp : List Sp
def encBn (b : Bn) : List Value := [.int .i64 b.lo, .int .i64 b.hi, .slice b.a b.m b.c]
theorem encBn_len (b : Bn) : (encBn b).length = 3 := rfl
def Bn.bd (b : Bn) : Bd := (b.lo, b.hi, b.sp)
def bds (l : List Bn) : List Bd := l.map Bn.bd
def bandRc (b : Bn) (l : List Sp) : List Rc := l.map fun s => (s.1, b.lo, s.2, b.hi)
theorem flat_snoc (l : List Bn) (b : Bn) : flat (bds (l ++ [b])) = flat (bds l) ++ bandRc b b.sp := by
  simp [bds, flat, Bn.bd, bandRc]
theorem flat_take_succ {l : List Bn} {k : Nat} {b : Bn} (h : l[k]? = some b) : flat (bds (l.take (k + 1))) = flat (bds (l.take k)) ++ bandRc b b.sp := by
  rw [List.take_add_one, h]; exact flat_snoc _ _
theorem bandRc_snoc {b : Bn} {l : List Sp} {j : Nat} {s : Sp} (h : l[j]? = some s) : bandRc b (l.take (j + 1)) = bandRc b (l.take j) ++ [(s.1, b.lo, s.2, b.hi)] := by
  unfold bandRc; rw [List.take_add_one, h]; simp
theorem flat_le {l : List Bn} (k : Nat) : (flat (bds (l.take k))).length ≤ (flat (bds l)).length := by
  have e : flat (bds l) = flat (bds (l.take k)) ++ flat (bds (l.drop k)) := by
    simp only [bds, flat, List.map_take, List.map_drop, ← List.flatMap_append, List.take_append_drop]
  rw [e, List.length_append]; omega
theorem bandRc_len (b : Bn) (l : List Sp) : (bandRc b l).length = l.length := by simp [bandRc]
/-- The element and its cells. -/
theorem Vw.el {α : Type} {enc : α → List Value} {k : Nat} {w : World} {a : Option Addr} {l : List α} (h : Vw w a (cellsOf enc l)) (hk : ∀ x, (enc x).length = k) (hk0 : 0 < k) (i : Nat) (hi : i < l.length) :
    ∃ (x : α) (b off : Nat), l[i]? = some x ∧ a = some ⟨b, off, none⟩ ∧ b < w.heap.size ∧ ∀ j v, (enc x)[j]? = some v → w.cell? ⟨b, off + i * k + j, none⟩ = some v := by
  obtain ⟨b, off, e, hb, hc⟩ := h.elem hk hk0 i hi
  exact ⟨l[i], b, off, List.getElem?_eq_getElem hi, e, hb, hc⟩
/-- A row of the call's own that grows while a counter runs. -/
def RowW (w : World) (t : TypeId) (k : Nat) (n : Nat) (L : Nat → List Value) (N : Nat → Nat) (v i : Value) (wr : World) : Prop := ∃ j : Nat, j ≤ n ∧ i = .int .i64 j ∧ wr.ownsRow w.heap.size t k v (N j) (L j) ∧ Below w.heap.size w wr
set_option maxRecDepth 100000 in
set_option maxHeartbeats 2000000 in
theorem rects_any (a : Option Addr) (n cap : Nat) (bs : List Bn) (w : World) (hV : Vw w a (cellsOf encBn bs)) (hn : bs.length = n) (hc : n ≤ 1000000000000) (hS : ∀ b ∈ bs, Vw w b.a (spCells b.sp) ∧ b.sp.length = b.m) (hF : (flat (bds bs)).length ≤ 1000000000000) :
    Calls Tryz.prog 135 #[.slice a n cap] w (NewRc w (flat (bds bs))) := by
  have HV := Lib.hid hV; have HN := Lib.hid hn; have HS := Lib.hid hS; have HF := Lib.hid hF
  clear hV hn hS hF
  go_enter Tryz.func135, Tryz.ntmps135
  go_wp2
  go_loopw [3, 10] (fun v i wr => RowW w 73 4 n (fun j => rcCells (flat (bds (bs.take j)))) (fun j => (flat (bds (bs.take j))).length) v i wr) (fun _ i _ => n - (intOf i).toNat)
  case atStart => exact ⟨0, Nat.zero_le _, rfl, World.ownsRow_nil _ _ _ _, Below.refl _ _⟩
  case round =>
    obtain ⟨k, hk, rfl, hown, hb⟩ := hrel
    dsimp only at hown
    obtain ⟨L0, hL0⟩ : ∃ L0, flat (bds (bs.take k)) = L0 := ⟨_, rfl⟩
    rw [hL0] at hown
    obtain ⟨a0, cap0, rfl, -, -, -⟩ := own_form hown
    have HL0 := Lib.hid hL0
    clear hL0
    by_cases hlt : k < n
    · have hlt' : (k : Int) < (n : Int) := by omega
      obtain ⟨x, b, off, hx, rfl, hbl, hcx⟩ := (HV.out.below hb).el encBn_len (by omega) k (by have := HN.out; omega)
      obtain ⟨hxv, hxm⟩ := HS.out x (List.mem_of_getElem? hx)
      have c0 : wr.cell? ⟨b, off + k * 3, none⟩ = _ := hcx 0 _ rfl; have c1 := hcx 1 _ rfl; have c2 := hcx 2 _ rfl
      have XV := Lib.hid hxv; have XM := Lib.hid hxm; have HX := Lib.hid hx
      have hlen : L0.length + x.m ≤ 1000000000000 := by
        have := flat_le (l := bs) (k + 1)
        rw [flat_take_succ hx, List.length_append, bandRc_len, hxm, HL0.out] at this
        have := HF.out; omega
      clear hx hxv hxm hcx
      obtain ⟨xlo, xhi, xa, xm, xc, xsp⟩ := x
      dsimp only at c0 c1 c2 hlen
      have OWN := Lib.hid hown; have HB := Lib.hid hb
      clear hown hb
      go_wp2
      obtain ⟨wo, rfl⟩ : ∃ wo : World, wo = wr := ⟨_, rfl⟩
      go_loopw [3, 17] (fun v i wx => RowW w 73 4 xm (fun j => rcCells (L0 ++ bandRc ⟨xlo, xhi, xa, xm, xc, xsp⟩ (xsp.take j))) (fun j => (L0 ++ bandRc ⟨xlo, xhi, xa, xm, xc, xsp⟩ (xsp.take j)).length) v i wx ∧ Blk wx wo.heap.size 192 #[.int .i64 xlo, .int .i64 xhi, .slice xa xm xc]) (fun _ i _ => xm - (intOf i).toNat)
      case atStart => exact ⟨⟨0, Nat.zero_le _, rfl, by simpa [bandRc] using OWN.out.alloc _, bal HB.out _⟩, Blk.fresh rfl⟩
      case round =>
        clear OWN
        obtain ⟨⟨j, hj, rfl, hown, hb⟩, hbox⟩ := hrel
        dsimp only at hown
        have d0 : wr.cell? ⟨wo.heap.size, 0, none⟩ = some (.int .i64 xlo) := hbox.cell 0
        have d1 : wr.cell? ⟨wo.heap.size, 1, none⟩ = some (.int .i64 xhi) := hbox.cell 1
        have yd := hbox.lt
        have hlj : (L0 ++ bandRc ⟨xlo, xhi, xa, xm, xc, xsp⟩ (xsp.take j)).length ≤ (L0).length + j := by
          rw [List.length_append, bandRc_len, List.length_take]; omega
        obtain ⟨L, hL⟩ : ∃ L, L0 ++ bandRc ⟨xlo, xhi, xa, xm, xc, xsp⟩ (xsp.take j) = L := ⟨_, rfl⟩
        rw [hL] at hown hlj
        obtain ⟨a1, cap1, rfl, -, -, -⟩ := own_form hown
        have BX := Lib.hid hbox
        clear hbox
        by_cases hlt2 : j < xm
        · have hlt2' : (j : Int) < (xm : Int) := by omega
          obtain ⟨s, b', off', hs, rfl, hbl', hcs⟩ := (XV.out.below hb).el encSp_len (by omega) j (by have := XM.out; omega)
          have e0 : wr.cell? ⟨b', off' + j * 2, none⟩ = _ := hcs 0 _ rfl; have e1 := hcs 1 _ rfl
          have HS2 := Lib.hid hs
          have HL := Lib.hid hL
          clear hcs hs hL
          obtain ⟨s0, s1⟩ := s
          dsimp only at e0 e1
          have OWN := Lib.hid hown; have HB2 := Lib.hid hb
          clear hown hb
          go_wp2_with (at_builtin; refine app_list elRc rfl _ _ rfl w.heap.size _ L.length (rcCells L) rfl ((OWN.out.alloc _).alloc _) _ 1 _ (encRc (s0, xlo, s1, xhi)) rfl (vw_blk (Blk.fresh (by simp))) (by simp) rfl (oneC_rc _) (by omega) (by have := HB2.out.size; simp; omega) ?_; intro v2 w2 hown2 hg2 _; obtain ⟨a2, cap2, rfl, -, -, -⟩ := own_form hown2)
          go_roundw
          case rel =>
            have eL : L0 ++ bandRc ⟨xlo, xhi, some ⟨b', off', none⟩, xm, xc, xsp⟩ (xsp.take (j + 1)) = L ++ [(s0, xlo, s1, xhi)] := by
              rw [bandRc_snoc HS2.out, ← List.append_assoc, HL.out]
            refine ⟨⟨j + 1, by omega, by go_num, ?_, below_app ((OWN.out.alloc _).alloc _) (bal (bal HB2.out _) _) hg2⟩, blk_app ((BX.out.alloc _).alloc _) ((OWN.out.alloc _).alloc _) hg2 (by decide)⟩
            dsimp only
            rw [eL, rcCells_snoc, List.length_append]
            exact hown2
          case measure => simp [intOf]; omega
        · have hge2 : ¬ (j : Int) < (xm : Int) := by omega
          rw [List.take_of_length_le (by have := XM.out; omega)] at hL
          have HL := Lib.hid hL
          have OWN := Lib.hid hown; have HB2 := Lib.hid hb
          clear hown hb hL
          go_wp2
          go_roundw
          case rel =>
            refine ⟨k + 1, by omega, by go_num, ?_, HB2.out⟩
            dsimp only
            rw [flat_take_succ HX.out, HL0.out]
            dsimp only
            rw [HL.out]
            exact OWN.out
          case measure => simp [intOf]; omega
    · have hge : ¬ (k : Int) < (n : Int) := by omega
      have OWN := Lib.hid hown; have HB := Lib.hid hb
      clear hown hb
      go_wp2
      go_ret
      have e := HL0.out
      rw [List.take_of_length_le (by have := HN.out; omega)] at e
      rw [e]
      exact ⟨_, rfl, OWN.out, HB.out⟩
end Go.Proofs.YtglhenobodndjaaGreatDoor
