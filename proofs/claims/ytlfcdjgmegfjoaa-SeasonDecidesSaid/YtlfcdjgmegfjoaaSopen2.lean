/- What came in: a slice at nil. -/
import Derived.Test.YtlfcdjgmegfjoaaSlaw2
import Derived.Test.YtlfcdjgmegfjoaaSopen
namespace Go.Proofs.Ytlfcdjgmegfjoaa
open Go.RowKit Go.Shelf Go.ChangeShapes Go.WideShapes Go.Deep
theorem open_none {H : Type} {enc : TypeId × Value → H} {P : Program} {w : World} {base : Nat} {spare : Nat → Bool} {held : Bool} {t e : TypeId} {fuel : Nat} {x : DataW H × List MemPlace} {a : Option Addr} {len cap : Nat}
    (ht : P.underlying t = some (.slice e)) (h : DataW.trod enc P w base spare held fuel t [.slice a len cap] = some x) : a = none → len = 0 ∧ cap = 0 := by
  intro ha
  rcases open_slice ht h with ⟨h0, _⟩ | ⟨a', len', cap', m, n, D, Pl, hcs, _⟩
  · simp at h0; exact h0.2
  · simp at hcs; rw [ha] at hcs; simp at hcs
end Go.Proofs.Ytlfcdjgmegfjoaa
