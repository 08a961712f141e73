/- What came in: slices of structs of integers. -/
import Derived.Test.YtlfcdjgmegfjoaaSlaw1
import Derived.Deep.Slices
import Derived.Deep.Fields
import Derived.ChangeSame
namespace Go.Proofs.Ytlfcdjgmegfjoaa
open Go.RowKit Go.Shelf Go.ChangeShapes Go.WideShapes Go.Deep

section
variable {H : Type} {enc : TypeId × Value → H} {P : Program} {w : World} {base : Nat} {spare : Nat → Bool} {held : Bool}
theorem add_zero' (a : Addr) : a.add 0 = a := by simp [Addr.add]
theorem open_structs {t e it : TypeId} {fs : Array Field} {fuel : Nat} {cs : List Value} {x : DataW H × List MemPlace} (ht : P.underlying t = some (.slice e)) (he : P.underlying e = some (.struct fs))
    (hone : oneCellFields P fs = true) (hC : P.cellsOf e = fs.size) (hI : ∀ (j : Nat) (f : Field), fs[j]? = some f → f.type = it) (hU : P.underlying it = some (.int .i64)) (hfs : 0 < fs.size) (h : DataW.trod enc P w base spare held fuel t cs = some x) :
    ∃ (a : Option Addr) (len cap : Nat) (z : Nat → Nat → Int), cs = [.slice a len cap] ∧ len ≤ cap ∧ cap ≤ maxLen ∧
      ∀ i, i < len → ∃ b off : Nat, a = some ⟨b, off, none⟩ ∧ ∀ j, j < fs.size → w.cell? ⟨b, off + i * fs.size + j, none⟩ = some (.int .i64 (z i j)) := by
  rcases open_slice ht h with ⟨h0, _⟩ | ⟨a, len, cap, m, n, D, Pl, hcs, _, hl, hm, hmm, _, hi⟩
  · exact ⟨none, 0, 0, fun _ _ => 0, h0, Nat.le_refl _, Nat.zero_le _, fun i hi => absurd hi (by omega)⟩
  have hlm : len ≤ m := by rw [hmm]; split <;> omega
  have hz : ∀ q : Nat × Nat, ∃ z : Int, q.1 < len → q.2 < fs.size → w.cell? ((a.add (q.1 * fs.size)).add q.2) = some (.int .i64 z) := by
    rintro ⟨i, j⟩
    by_cases hil : i < len
    · by_cases hjl : j < fs.size
      · obtain ⟨cs', hc, ht'⟩ := hi i (by omega)
        rw [hC] at hc
        obtain ⟨_, hcl, hat⟩ := World.cells?_some hc
        obtain ⟨ys, n', _, _, _, hyl, hf⟩ := DataW.trod_struct he ht'
        have hfj : fs[j]? = some fs[j] := Array.getElem?_eq_getElem hjl
        obtain ⟨ho, hk⟩ := hone_of hone j _ hfj
        have h1 := hf j _ hfj
        rw [ho, hk, hI j _ hfj] at h1
        have hys : ys[j]? = some (ys[j]'(by omega)) := List.getElem?_eq_getElem (by omega)
        obtain ⟨z, e1, _, _⟩ := DataW.trod_int hU (h1.trans hys)
        refine ⟨z, fun _ _ => ?_⟩
        rw [hat j hjl]
        have e2 : ((cs'.drop j).take 1)[0]? = cs'[j]? := by simp [List.getElem?_drop]
        rw [← e2, e1]; rfl
      · exact ⟨0, fun _ h => absurd h hjl⟩
    · exact ⟨0, fun h => absurd h hil⟩
  obtain ⟨z, hz⟩ := Classical.axiomOfChoice hz
  refine ⟨some a, len, cap, fun i j => z (i, j), hcs, hl, hm, fun i hil => ?_⟩
  have hsp := World.cell?_spot (hz (0, 0) (by show 0 < len; omega) hfs)
  rw [Nat.zero_mul, add_zero', add_zero'] at hsp
  obtain ⟨b, off, spot⟩ := a
  obtain rfl : spot = none := hsp
  refine ⟨b, off, rfl, fun j hj => ?_⟩
  have h1 := hz (i, j) hil hj
  have e : ((⟨b, off, none⟩ : Addr).add (i * fs.size)).add j = ⟨b, off + i * fs.size + j, none⟩ := by
    unfold Addr.add
    simp only
    split <;> (try split) <;> simp_all
  rwa [e] at h1
/-- A series by value that came in. -/
theorem open_series {e t1 : TypeId} {g0 g1 : Field} {it : TypeId} {n0 : Nat} {x0 : Value} {y0 : DataW H × List MemPlace} (h1 : P.underlying t1 = some (.slice e)) (he : P.underlying e = some (.struct #[g0, g1])) (hone : oneCellFields P #[g0, g1] = true) (hC : P.cellsOf e = 2)
    (hg0 : g0.type = it) (hg1 : g1.type = it) (hU : P.underlying it = some (.int .i64)) (h : DataW.trod enc P w base spare held n0 t1 [x0] = some y0) :
    ∃ (a : Option Addr) (len cap : Nat) (l : List (Int × Int)), x0 = .slice a len cap ∧ l.length = len ∧ len ≤ 9223372036854775807 ∧ Ser w a l := by
  obtain ⟨a, len, cap, z, hcs, hl, hm, hz⟩ := open_structs h1 he hone hC (it := it) (fun j f hj => by
    match j, hj with
    | 0, hj => cases hj; exact hg0
    | 1, hj => cases hj; exact hg1) hU (by simp) h
  unfold maxLen at hm
  refine ⟨a, len, cap, (List.range len).map fun i => (z i 0, z i 1), by simpa using hcs, by simp, by omega, fun i hi => ?_⟩
  have hil : i < len := by simpa using hi
  obtain ⟨b, off, e1, h2⟩ := hz i hil
  have q0 := h2 0 (by simp); have q1 := h2 1 (by simp)
  exact ⟨b, off, e1, by simpa [ob, hil] using q0, by simpa [ob, hil] using q1⟩
/-- Phases that came in. -/
theorem open_phases {t e it : TypeId} {f0 f1 f2 f3 : Field} {fuel : Nat} {cs : List Value} {x : DataW H × List MemPlace} (ht : P.underlying t = some (.slice e)) (he : P.underlying e = some (.struct #[f0, f1, f2, f3]))
    (hone : oneCellFields P #[f0, f1, f2, f3] = true) (hC : P.cellsOf e = 4) (h0 : f0.type = it) (h1 : f1.type = it) (h2 : f2.type = it) (h3 : f3.type = it) (hU : P.underlying it = some (.int .i64)) (h : DataW.trod enc P w base spare held fuel t cs = some x) :
    ∃ (a : Option Addr) (len cap : Nat) (l : List Ph), cs = [.slice a len cap] ∧ l.length = len ∧ len ≤ 9223372036854775807 ∧ Phs w a l := by
  obtain ⟨a, len, cap, z, hcs, hl, hm, hz⟩ := open_structs ht he hone hC (it := it) (fun j f hj => by
    match j, hj with
    | 0, hj => cases hj; exact h0
    | 1, hj => cases hj; exact h1
    | 2, hj => cases hj; exact h2
    | 3, hj => cases hj; exact h3) hU (by simp) h
  unfold maxLen at hm
  refine ⟨a, len, cap, (List.range len).map fun i => (z i 0, z i 1, z i 2, z i 3), hcs, by simp, by omega, fun i hi => ?_⟩
  have hil : i < len := by simpa using hi
  obtain ⟨b, off, e1, q⟩ := hz i hil
  have q0 := q 0 (by simp); have q1 := q 1 (by simp); have q2 := q 2 (by simp); have q3 := q 3 (by simp)
  exact ⟨b, off, e1, by simpa [ph, hil] using q0, by simpa [ph, hil] using q1, by simpa [ph, hil] using q2, by simpa [ph, hil] using q3⟩
end
end Go.Proofs.Ytlfcdjgmegfjoaa
