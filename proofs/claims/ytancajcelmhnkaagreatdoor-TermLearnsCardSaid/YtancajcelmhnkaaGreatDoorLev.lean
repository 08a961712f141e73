/- Terms made of terms beside the tape;what Eval lays down. -/
import Derived.Test.YtancajcelmhnkaaGreatDoorGy
import Derived.Test.YtancajcelmhnkaaGreatDoorKnot
import Derived.Test.YtancajcelmhnkaaGreatDoorTruths
import Derived.Test.YtancajcelmhnkaaGreatDoorPrs
namespace Go.Proofs.YtancajcelmhnkaaGreatDoor
open Go.RowKit Go.Sort Go.Shelf
set_option linter.unusedVariables false
set_option linter.unusedSimpArgs false
theorem tm_not {b g : Nat} {w w' : World} {t : TmM} (hT : TmOk (hole b w) t) (hb : b < w.heap.size) (hbl : Below w.heap.size w w') (hg : w.heap.size≤g) (hB : Blk w' g 24 (encTm t).toArray) : TmOk (hole b w') (.mk 11 0 0 (some ⟨g,0,none⟩) 1 1 [t]):=by
  refine .mk _ _ _ _ _ _ _ (fun i v hi=>⟨g,0,rfl,cell_hole ?_ (by omega)⟩) rfl (Nat.le_refl _) (by decide) (fun h=>by cases h) (fun k hk=>by rw [List.mem_singleton.1 hk];exact hT.beh (hole_below hbl hb))
  rw [Nat.zero_add,hB.cell i]
  simpa [cellsOf] using hi
theorem tm_pair {b g : Nat} {w w' : World} {op : Int} {t u : TmM} (hT : TmOk (hole b w) t) (hU : TmOk (hole b w) u) (hb : b < w.heap.size) (hbl : Below w.heap.size w w') (hg : w.heap.size≤g) (hB : Blk w' g 24 (encTm t ++ encTm u).toArray) : TmOk (hole b w') (.mk op 0 0 (some ⟨g,0,none⟩) 2 2 [t,u]):=by
  refine .mk _ _ _ _ _ _ _ (fun i v hi=>⟨g,0,rfl,cell_hole ?_ (by omega)⟩) rfl (Nat.le_refl _) (by decide) (fun h=>by cases h) (fun k hk=>?_)
  · rw [Nat.zero_add,hB.cell i]
    simpa [cellsOf] using hi
  · rcases List.mem_cons.1 hk with rfl | hk
    · exact hT.beh (hole_below hbl hb)
    · rw [List.mem_singleton.1 hk];exact hU.beh (hole_below hbl hb)
theorem Blk.at3 {w : World} {g : Nat} {t : TypeId} {a b c : Value} (h : Blk w g t #[a,b,c]) : (w.cell? ⟨g,0,none⟩ = some a∧w.cell? ⟨g,1,none⟩ = some b∧w.cell? ⟨g,2,none⟩ = some c)∧(w.frozen? ⟨g,0,none⟩ = false∧w.frozen? ⟨g,1,none⟩ = false∧w.frozen? ⟨g,2,none⟩ = false)∧g < w.heap.size :=
  ⟨⟨h.cell 0,h.cell 1,h.cell 2⟩,⟨h.free 0,h.free 1,h.free 2⟩,h.lt⟩
theorem Blk.at4 {w : World} {g : Nat} {t : TypeId} {a b c d : Value} (h : Blk w g t #[a,b,c,d]) : (w.cell? ⟨g,0,none⟩ = some a∧w.cell? ⟨g,1,none⟩ = some b∧w.cell? ⟨g,2,none⟩ = some c∧w.cell? ⟨g,3,none⟩ = some d)∧(w.frozen? ⟨g,0,none⟩ = false∧w.frozen? ⟨g,1,none⟩ = false∧w.frozen? ⟨g,2,none⟩ = false∧w.frozen? ⟨g,3,none⟩ = false)∧g < w.heap.size :=
  ⟨⟨h.cell 0,h.cell 1,h.cell 2,h.cell 3⟩,⟨h.free 0,h.free 1,h.free 2,h.free 3⟩,h.lt⟩
structure EvAt (W : World) (g : Nat) (E : Env) (t : Tm) (y n o : Sc Rc) : Prop where
  blk : Blk W g 55 #[.slice y.a y.n y.c,.slice n.a n.n n.c,.slice o.a o.n o.c]
  ys : CanS W (E.ev t).yes y
  ns : CanS W (E.ev t).no n
  os : CanS W (E.rest (E.ev t)) o
theorem EvAt.below {W W' : World} {g : Nat} {E : Env} {t : Tm} {y n o : Sc Rc} (h : EvAt W g E t y n o) (hb : Below W.heap.size W W') : EvAt W' g E t y n o:=⟨h.blk.below hb,h.ys.below hb,h.ns.below hb,h.os.below hb⟩
theorem sameYes {w : World} {s t : Sc Rc} {S : Sq} (h : CanS w S s) (k : CanS w S t) :
    Calls Tryz.prog 28 #[.agg #[.slice s.a s.n s.c],.agg #[.slice t.a t.n t.c]] w fun e w'=>e = .returned (.bool true)∧Below w.heap.size w w' :=
  (rsame_any s.a s.n s.c s.l t.a t.n t.c t.l w h.ok.1 k.ok.1).mono fun e w' ⟨b,he,hi,hb⟩=>by
    obtain rfl : b = true:=hi.2 (h.can.uniq k.can)
    exact ⟨he,hb⟩
theorem truthsYes {w : World} {y n o y' n' o' : Sc Rc} {S1 S2 S3 : Sq} (h1 : CanS w S1 y) (h2 : CanS w S2 n) (h3 : CanS w S3 o) (k1 : CanS w S1 y') (k2 : CanS w S2 n') (k3 : CanS w S3 o') :
    Calls Tryz.prog 22 #[.agg #[.slice y.a y.n y.c,.slice n.a n.n n.c,.slice o.a o.n o.c],.agg #[.slice y'.a y'.n y'.c,.slice n'.a n'.n n'.c,.slice o'.a o'.n o'.c]] w fun e w'=>e = .returned (.bool true)∧Below w.heap.size w w' :=
  (truths_any y.a n.a o.a y'.a n'.a o'.a y.n y.c n.n n.c o.n o.c y'.n y'.c n'.n n'.c o'.n o'.c y.l n.l o.l y'.l n'.l o'.l w h1.ok.1 h2.ok.1 h3.ok.1 k1.ok.1 k2.ok.1 k3.ok.1).mono fun e w' ⟨b,he,hi,hb⟩=>by
    obtain rfl : b = true:=hi.2 ⟨h1.can.uniq k1.can,h2.can.uniq k2.can,h3.can.uniq k3.can⟩
    exact ⟨he,hb⟩
inductive TmAp (gz : Nat) : TmM→Prop
  | mk (op num more : Int) (a : Option Addr) (n c : Nat) (kids : List TmM) : (kids ≠ []→∀ g off,a = some ⟨g,off,none⟩→g ≠ gz)→(∀ k ∈ kids,TmAp gz k)→TmAp gz (.mk op num more a n c kids)
theorem encTm_ne (t : TmM) : encTm t ≠ []:=by cases t;simp [encTm]
theorem cellsTm_ne {l : List TmM} (h : l ≠ []) : ∃ v,(cellsOf encTm l)[0]? = some v:=by
  obtain ⟨t,r,rfl⟩:=List.exists_cons_of_ne_nil h
  obtain ⟨op,num,more,a,n,c,kids⟩:=t
  exact ⟨_,rfl⟩
theorem TmOk.ap {w : World} {gz : Nat} {t : TmM} (hz : w.heap.size≤gz) : TmOk w t→TmAp gz t:=by
  induction t using TmM.ind with
  | h op num more a n c kids ih =>
    intro h
    refine .mk _ _ _ _ _ _ _ (fun hk g off e=>?_) fun k hk=>ih k hk (h.kid hk)
    obtain ⟨v,hv⟩:=cellsTm_ne hk
    obtain ⟨g',off',e',hc⟩:=h.vw 0 v hv
    rw [e] at e';cases e'
    have:=World.block_lt_of_cell? w _ hc
    simp only at this
    omega
theorem TmOk.beside {w w' : World} {gz : Nat} {t : TmM} (hk : ∀ g,g ≠ gz→g < w.heap.size→w'.heap[g]? = w.heap[g]?) : TmOk w t→TmAp gz t→TmOk w' t:=by
  induction t using TmM.ind with
  | h op num more a n c kids ih =>
    intro h ha
    cases ha with
    | mk _ _ _ _ _ _ _ h1 h2 =>
      refine .mk _ _ _ _ _ _ _ (fun i v hi=>?_) h.len h.cap.1 h.cap.2 h.nil fun k hkk=>ih k hkk (h.kid hkk) (h2 k hkk)
      have hne : kids ≠ []:=fun e=>by rw [e] at hi;simp [cellsOf] at hi
      obtain ⟨g,off,e,hc⟩:=h.vw i v hi
      exact ⟨g,off,e,(World.cell?_of_block (w:=w) (w':=w') (a:=⟨g,off + i,none⟩) (hk g (h1 hne g off e) (World.block_lt_of_cell? w _ hc))).trans hc⟩
theorem hole_set4 {w : World} {b gz : Nat} {v0 v1 v2 v3 : Value} : ∀ g,g ≠ gz→g < (hole b w).heap.size→(hole b ((((w.setCell ⟨gz,0,none⟩ v0).setCell ⟨gz,1,none⟩ v1).setCell ⟨gz,2,none⟩ v2).setCell ⟨gz,3,none⟩ v3)).heap[g]? = (hole b w).heap[g]?:=by
  intro g hg hl
  rw [hole_size] at hl
  by_cases e : g = b
  · subst e
    rw [hole_self hl,hole_self (by simpa [World.setCell] using hl)]
  · rw [hole_at _ e,hole_at _ e]
    exact (Below.heap_setCell _ _ _ _ hg).trans ((Below.heap_setCell _ _ _ _ hg).trans ((Below.heap_setCell _ _ _ _ hg).trans (Below.heap_setCell _ _ _ _ hg)))
def Cells4 (w : World) (g : Nat) (a b c d : Value) : Prop:=w.cell? ⟨g,0,none⟩ = some a∧w.cell? ⟨g,1,none⟩ = some b∧w.cell? ⟨g,2,none⟩ = some c∧w.cell? ⟨g,3,none⟩ = some d
theorem Cells4.below {w w' : World} {g : Nat} {a b c d : Value} (h : Cells4 w g a b c d) (hb : Below w.heap.size w w') : Cells4 w' g a b c d:=⟨bc1 hb h.1,bc1 hb h.2.1,bc1 hb h.2.2.1,bc1 hb h.2.2.2⟩
theorem Blk.cells4 {w : World} {g : Nat} {t : TypeId} {a b c d : Value} (h : Blk w g t #[a,b,c,d]) : Cells4 w g a b c d:=⟨h.cell 0,h.cell 1,h.cell 2,h.cell 3⟩
theorem cell_far4 {w : World} {g k i : Nat} {v v0 v1 v2 v3 : Value} (hne : k ≠ g) (h : w.cell? ⟨k,i,none⟩ = some v) : ((((w.setCell ⟨g,0,none⟩ v0).setCell ⟨g,1,none⟩ v1).setCell ⟨g,2,none⟩ v2).setCell ⟨g,3,none⟩ v3).cell? ⟨k,i,none⟩ = some v:=by
  rw [World.cell?_setCell_other _ _ _ _ (by intro e;injection e;omega),World.cell?_setCell_other _ _ _ _ (by intro e;injection e;omega),World.cell?_setCell_other _ _ _ _ (by intro e;injection e;omega),World.cell?_setCell_other _ _ _ _ (by intro e;injection e;omega)]
  exact h
theorem Cells4.far4 {w : World} {k g : Nat} {a b c d v0 v1 v2 v3 : Value} (h : Cells4 w k a b c d) (hne : k ≠ g) : Cells4 ((((w.setCell ⟨g,0,none⟩ v0).setCell ⟨g,1,none⟩ v1).setCell ⟨g,2,none⟩ v2).setCell ⟨g,3,none⟩ v3) k a b c d :=
  ⟨cell_far4 hne h.1,cell_far4 hne h.2.1,cell_far4 hne h.2.2.1,cell_far4 hne h.2.2.2⟩
theorem Cells4.far3 {w : World} {k g : Nat} {a b c d v0 v1 v2 : Value} (h : Cells4 w k a b c d) (hne : k ≠ g) : Cells4 (((w.setCell ⟨g,0,none⟩ v0).setCell ⟨g,1,none⟩ v1).setCell ⟨g,2,none⟩ v2) k a b c d :=
  ⟨cell_far3 hne h.1,cell_far3 hne h.2.1,cell_far3 hne h.2.2.1,cell_far3 hne h.2.2.2⟩
theorem tmAp_one {gz g : Nat} {op : Int} {t : TmM} (h : g ≠ gz) (k : TmAp gz t) : TmAp gz (.mk op 0 0 (some ⟨g,0,none⟩) 1 1 [t]):=.mk _ _ _ _ _ _ _ (fun _ g' off e=>by cases e;exact h) fun x hx=>by rw [List.mem_singleton.1 hx];exact k
theorem tmAp_two {gz g : Nat} {op : Int} {t u : TmM} (h : g ≠ gz) (k : TmAp gz t) (l : TmAp gz u) : TmAp gz (.mk op 0 0 (some ⟨g,0,none⟩) 2 2 [t,u]):=.mk _ _ _ _ _ _ _ (fun _ g' off e=>by cases e;exact h) fun x hx=>by
  rcases List.mem_cons.1 hx with rfl | hx
  · exact k
  · rw [List.mem_singleton.1 hx];exact l
theorem CanS.step {b : Nat} {w w' : World} {S : Sq} {s : Sc Rc} (h : CanS w S s) (hs : Steps1 b w w') : CanS w' S s:=by
  by_cases hl : s.l = []
  · exact ⟨ok_nil h.ok hl,h.can⟩
  · exact ⟨((h.ok.holed (tape_apart hs.was h.ok hl)).below (hole_steps hs)).fill,h.can⟩
theorem EvAt.step {b : Nat} {W W' : World} {g : Nat} {E : Env} {t : Tm} {y n o : Sc Rc} (h : EvAt W g E t y n o) (hs : Steps1 b W W') (hg : g ≠ b) : EvAt W' g E t y n o:=⟨h.blk.step hs hg,h.ys.step hs,h.ns.step hs,h.os.step hs⟩
end Go.Proofs.YtancajcelmhnkaaGreatDoor
