/- A region that draws its order, within a round of a loop over a function: the walk of such a region by the facts that hold throughout (the kit's wpAnyH) serves there too. -/
import Derived.Test.YtlfcdjgmegfjoaaProg
import Derived.CallsIn
import Derived.ControlIn
import Derived.RangeFuncNested
import Derived.Deep.RegionHeld3
namespace Go.Proofs.Ytlfcdjgmegfjoaa
open Go.RowKit

/-- The region comes to its end. -/
def OnlyN (Q : Exit → Act → World → Prop) : Exit → Act → World → Prop := fun e a w => e = .normal ∧ Q .normal a w
def NoDefer (ops : Array Oper) : Bool := ops.toList.all fun o => match o.op with | .defer _ => false | _ => true
theorem NoDefer.at_ {ops : Array Oper} (h : NoDefer ops = true) {i : Nat} {o : Oper} (ho : ops[i]? = some o) : ∀ c, o.op ≠ .defer c := fun c hc => by
  have hm : o ∈ ops.toList := by have := Array.mem_of_getElem? ho; simpa using this
  have := List.all_eq_true.1 h o hm
  rw [hc] at this; cases this

theorem fenced_round (P : Program) (L : Nat) (m : Machine) : m.fenced P (Fence.wide.inRound L) := fenced_wide P m
theorem steps_round {P : Program} {L : Nat} {m m' : Machine} (h : Steps P m m') : StepsIn (Machine.fenced P (Fence.wide.inRound L)) P m m' := by
  obtain ⟨n, hn⟩ := h
  induction n generalizing m with
  | zero => simp [runN] at hn; exact hn ▸ .refl _
  | succ n ih =>
    simp only [runN] at hn
    cases hs : step P m with
    | next m₁ => rw [hs] at hn; exact .head (fenced_round P L m) hs (ih hn)
    | _ => rw [hs] at hn; simp at hn
theorem ops_round {P : Program} {ops : Array Oper} {Q : Exit → Act → World → Prop} {L n : Nat} (hnd : NoDefer ops = true) (l : List Nat) :
    ∀ (a : Act) (w : World), wpOps P ops (OnlyN Q) l a w → wpOpsIn (Fence.wide.inRound L) n P ops Q l a w := by
  induction l with
  | nil => exact fun a w h => h.2
  | cons i rest ih =>
    intro a w h
    simp only [wpOps] at h
    simp only [wpOpsIn]
    cases ho : ops[i]? with
    | none => simp only [ho] at h ⊢; exact ih _ _ h
    | some o =>
      simp only [ho] at h ⊢
      by_cases hw : Region.wanted o (yielded ops a.tmps) = true
      · simp only [hw, if_true] at h ⊢
        rcases h with h | ⟨_, a0, w0, h⟩
        · refine ⟨fun _ _ => trivial, ?_⟩
          rw [Oper.semAt_eq _ _ _ (NoDefer.at_ hnd ho)]
          unfold Oper.wp at h
          generalize (execOp a.eval o).run P w = r at h
          cases r with
          | ok x w' =>
            cases x <;> simp only [Oper.upon, Oper.uponIn] at h ⊢
            case enter f args =>
              refine ⟨fun e => (by cases e), ?_⟩
              refine CallsIn.mono (CallsIn.inRound L (callsIn_wide.2 h)) ?_
              intro e w'' he
              cases e with
              | returned v => exact ih _ _ he
              | panicked chain => exact absurd he.1 (by simp)
              | outgrown => obtain ⟨_, _, he⟩ := he; exact absurd he.1 (by simp)
            case row row args =>
              exact ⟨fun e => (by cases e), fun c cs _ => by obtain ⟨v, w1, h1, h2⟩ := h c cs; exact ⟨v, w1, ih _ _ h1, steps_round h2⟩⟩
            all_goals first | exact ih _ _ h | exact h.elim
          | halt x w' => cases x <;> simp only [Oper.upon, Oper.uponIn] at h ⊢ <;> first | exact absurd h.1 (by simp) | exact h.elim
        · exact absurd h.1 (by simp)
      · simp only [hw, Bool.false_eq_true, if_false] at h ⊢
        exact ⟨fun _ _ => trivial, ih _ _ h⟩

/-- 'wpAnyH_take' with the slot named: the frame stays written out. -/
theorem takeT {P : Program} {md : Region.Mode} {ops : Array Oper} {Q : Exit → Act → World → Prop} {S : World → Prop} {i d : Nat} {oi : Oper} {v : Value} {fuel : Nat} {listed : Array Bool} {a : Act} {w : World} (hi : ops[i]? = some oi) (hdst : oi.dst = some d)
    (hs : Region.noSelect ops = true) (hf : Region.free md ops listed i = true) (hr : (Region.ready md ops listed).contains i = true)
    (hy : YieldsIf P ops S oi v a) (hS : S w) (h : wpAnyH P md ops (OnlyN Q) S fuel (listed.setIfInBounds i true) { tmps := a.tmps.setIfInBounds d v, defers := a.defers } w) : wpAnyH P md ops (OnlyN Q) S (fuel + 1) listed a w :=
  wpAnyH_take hi hs hf hr (fun _ _ _ h => absurd h.1 (by simp)) hy hS (by unfold Act.put; rw [hdst]; exact h)
theorem wpIn_region_round {P : Program} {id : Nat} {ops : Array Oper} {Q : Exit → Act → World → Prop} {S : World → Prop} {a : Act} {w : World} {L n : Nat} (hm : P.follows .mixedOrders = true) (hnd : NoDefer ops = true) (hS : S w.drew)
    (h : S w.drew → wpAnyH P .any ops (OnlyN Q) S ops.size (Array.replicate ops.size false) a w.drew) : (Code.region id ops true).wpIn (Fence.wide.inRound L) n P Q a w :=
  wpIn_region_draw fun t => by
    simp only [Region.schedule, hm, Bool.true_or, if_true]
    exact ops_round hnd _ _ _ (wpAny_sound ops.size t _ a _ (wpAny_of_held _ _ _ _ (h hS)))
end Go.Proofs.Ytlfcdjgmegfjoaa
