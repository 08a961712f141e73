/- Names of crops: the eight that catalogues are made of. -/
import Derived.Test.YtancajcelmhnkaaGreatDoorGj
import Derived.Handy
namespace Go.Proofs.YtancajcelmhnkaaGreatDoor
open Go.RowKit
set_option linter.unusedVariables false
set_option linter.unusedSimpArgs false
def nm8 : List ByteArray:=[⟨#[98,97,114,108,101,121]⟩,⟨#[99,108,111,118,101,114]⟩,⟨#[103,114,97,115,115]⟩,⟨#[109,97,105,122,101]⟩,⟨#[111,97,116,115]⟩,⟨#[114,121,101]⟩,⟨#[118,101,116,99,104]⟩,⟨#[119,104,101,97,116]⟩]
def NameAt (w : World) (s : ByteArray) : Prop:=∀ W : World,Below w.heap.size w W→Calls Tryz.prog 128 #[.string s] W fun e w'=>e = .returned (.bool true)∧Below W.heap.size W w'
set_option maxRecDepth 100000 in
set_option maxHeartbeats 4000000 in
theorem name_0 (w : World) : Calls Tryz.prog 128 #[.string ⟨#[98,97,114,108,101,121]⟩] w fun e w'=>e = .returned (.bool true)∧Below w.heap.size w w':=by
  go_enter Tryz.func128,Tryz.ntmps128
  go_wp2
  go_rounds 7
  go_ret
  exact ⟨rfl,Below.refl _ _⟩
set_option maxRecDepth 100000 in
set_option maxHeartbeats 4000000 in
theorem name_1 (w : World) : Calls Tryz.prog 128 #[.string ⟨#[99,108,111,118,101,114]⟩] w fun e w'=>e = .returned (.bool true)∧Below w.heap.size w w':=by
  go_enter Tryz.func128,Tryz.ntmps128
  go_wp2
  go_rounds 7
  go_ret
  exact ⟨rfl,Below.refl _ _⟩
set_option maxRecDepth 100000 in
set_option maxHeartbeats 4000000 in
theorem name_2 (w : World) : Calls Tryz.prog 128 #[.string ⟨#[103,114,97,115,115]⟩] w fun e w'=>e = .returned (.bool true)∧Below w.heap.size w w':=by
  go_enter Tryz.func128,Tryz.ntmps128
  go_wp2
  go_rounds 6
  go_ret
  exact ⟨rfl,Below.refl _ _⟩
set_option maxRecDepth 100000 in
set_option maxHeartbeats 4000000 in
theorem name_3 (w : World) : Calls Tryz.prog 128 #[.string ⟨#[109,97,105,122,101]⟩] w fun e w'=>e = .returned (.bool true)∧Below w.heap.size w w':=by
  go_enter Tryz.func128,Tryz.ntmps128
  go_wp2
  go_rounds 6
  go_ret
  exact ⟨rfl,Below.refl _ _⟩
set_option maxRecDepth 100000 in
set_option maxHeartbeats 4000000 in
theorem name_4 (w : World) : Calls Tryz.prog 128 #[.string ⟨#[111,97,116,115]⟩] w fun e w'=>e = .returned (.bool true)∧Below w.heap.size w w':=by
  go_enter Tryz.func128,Tryz.ntmps128
  go_wp2
  go_rounds 5
  go_ret
  exact ⟨rfl,Below.refl _ _⟩
set_option maxRecDepth 100000 in
set_option maxHeartbeats 4000000 in
theorem name_5 (w : World) : Calls Tryz.prog 128 #[.string ⟨#[114,121,101]⟩] w fun e w'=>e = .returned (.bool true)∧Below w.heap.size w w':=by
  go_enter Tryz.func128,Tryz.ntmps128
  go_wp2
  go_rounds 4
  go_ret
  exact ⟨rfl,Below.refl _ _⟩
set_option maxRecDepth 100000 in
set_option maxHeartbeats 4000000 in
theorem name_6 (w : World) : Calls Tryz.prog 128 #[.string ⟨#[118,101,116,99,104]⟩] w fun e w'=>e = .returned (.bool true)∧Below w.heap.size w w':=by
  go_enter Tryz.func128,Tryz.ntmps128
  go_wp2
  go_rounds 6
  go_ret
  exact ⟨rfl,Below.refl _ _⟩
set_option maxRecDepth 100000 in
set_option maxHeartbeats 4000000 in
theorem name_7 (w : World) : Calls Tryz.prog 128 #[.string ⟨#[119,104,101,97,116]⟩] w fun e w'=>e = .returned (.bool true)∧Below w.heap.size w w':=by
  go_enter Tryz.func128,Tryz.ntmps128
  go_wp2
  go_rounds 6
  go_ret
  exact ⟨rfl,Below.refl _ _⟩
theorem name_any (k : Nat) (hk : k < 8) (w : World) : NameAt w (nm8[k]'hk):=fun W _=>by
  match k,hk with
  | 0,_=>exact name_0 W
  | 1,_=>exact name_1 W
  | 2,_=>exact name_2 W
  | 3,_=>exact name_3 W
  | 4,_=>exact name_4 W
  | 5,_=>exact name_5 W
  | 6,_=>exact name_6 W
  | 7,_=>exact name_7 W
  | n + 8,h=>omega
structure Cat (l : List Crp) : Prop where
  len : l.length≤8
  name : ∀ k (h : k < l.length),l[k].name = nm8[k]'(Nat.lt_of_lt_of_le h len)
  fam : ∀ c ∈ l,0≤c.family∧c.family≤40
def marksOk (c : Crp) : Prop:=0≤c.marks∧c.marks≤31
end Go.Proofs.YtancajcelmhnkaaGreatDoor
