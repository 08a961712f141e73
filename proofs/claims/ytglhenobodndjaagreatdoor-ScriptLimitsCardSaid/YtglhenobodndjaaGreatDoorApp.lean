/- Appends onto rows of the call's own, whatever the source: in a plain region and in one that draws. -/
import Derived.Test.YtglhenobodndjaaGreatDoorView
import Derived.Maps.AppendAt
import Derived.Deep.AppendLies
import Derived.Deep.RegionLaw
import Derived.RegionTactic
namespace Go.Proofs.YtglhenobodndjaaGreatDoor
open Go.RowKit Go.Sort
set_option linter.unusedVariables false

/-- A slice type t over elements of the type e. -/
structure ElT (P : Program) (t e : TypeId) (size bytes : Nat) : Prop where
  ex : ∃ (i : TypeInfo) (z : Value), P.underlying t = some (.slice e) ∧ P.info? e = some i ∧ i.zero = some z ∧ i.size = size ∧ i.bytes = bytes ∧ z.cells.size = size
  pos : 0 < size
  bpos : 0 < bytes
theorem ElT.mk' {P : Program} {t e : TypeId} {size bytes : Nat} {z : Value} (ht : P.underlying t = some (.slice e)) (hi : (P.info? e).map (fun i => (i.zero, i.size, i.bytes)) = some (some z, size, bytes)) (hz : z.cells.size = size) (hs : 0 < size) (hb : 0 < bytes) : ElT P t e size bytes := by
  obtain ⟨i, h1, h2, h3, h4⟩ := info_parts hi
  exact ⟨⟨i, z, ht, h1, h2, h3, h4, hz⟩, hs, hb⟩
def OneC (xs : List Value) : Prop := ∀ u ∈ xs, u.oneCell' = true
section
variable {P : Program} {w : World} {t e : TypeId} {size bytes : Nat}
theorem app_run (T : ElT P t e size bytes) (ty : TypeId) (base : Nat) (v : Value) (n : Nat) (xs : List Value) (hown : w.ownsRow base e size v n xs) (A : Option Addr) (m c : Nat) (news : List Value) (hv : Vw w A news) (hA : A = none → m = 0) (hl : news.length = m * size) (h1 : OneC news)
    (hN : (n + m) * bytes ≤ 140737488355328) (hbase : base ≤ w.heap.size) :
    ∃ v' w', (Builtin.append_ #[t, t] ty #[v, .slice A m c]).run P w = .ok v' w' ∧ w'.ownsRow base e size v' (n + m) (xs ++ news) ∧ w.grownBy w' v.ownBlock ∧ (v'.ownBlock = v.ownBlock ∨ v'.ownBlock = some w.heap.size) := by
  obtain ⟨⟨i, z, ht, hi, hz, hsz, hb, hzs⟩, hs0, hb0⟩ := T
  have hmax : n + m ≤ maxLen := by
    have := Nat.le_mul_of_pos_right (n + m) hb0
    unfold maxLen; omega
  cases A with
  | none =>
    obtain rfl := hA rfl
    obtain rfl : news = [] := List.eq_nil_of_length_eq_zero (by simpa using hl)
    have hrun : (Builtin.append_ #[t, t] ty #[v, .slice none 0 c]).run P w = .ok v w := by
      rcases hown.2 with ⟨rfl, rfl⟩ | ⟨g, cap, cur, rfl, _, _, hnc, _⟩
      · simp [Builtin.append_, run_underlying ht, sizeOf, typeInfo, hi, Builtin.lenOf, Builtin.firstCells]
      · simp [Builtin.append_, run_underlying ht, sizeOf, typeInfo, hi, Builtin.lenOf, Builtin.firstCells, hnc, storeCells]
    exact ⟨v, w, hrun, by simpa using hown, World.grownBy.refl w _, .inl rfl⟩
  | some ad =>
    have hcells : ∀ j u, news[j]? = some u → w.cell? (ad.add j) = some u := by
      intro j u hu
      obtain ⟨b, off, e1, h2⟩ := hv j u hu
      cases e1
      have e3 : (⟨b, off, none⟩ : Addr).add j = ⟨b, off + j, none⟩ := by unfold Addr.add; split <;> simp_all
      rw [e3]; exact h2
    obtain ⟨v', w', hrun, h2, h3, _, h5⟩ := run_append_own_at (P := P) w base t ty e i z size bytes ht hi hz hsz hb hzs hs0 v n xs hown ad m c news hl hcells h1 hmax hN hbase
    exact ⟨v', w', hrun, h2, h3, h5⟩
theorem app_wp (T : ElT P t e size bytes) {o : Oper} {a : Act} {K : Act → World → Prop} {Q : Exit → Act → World → Prop} (s x : Operand) (ho : o.op = .call { callee := .builtin .append, args := #[s, x], argTypes := #[t, t] })
    (base : Nat) (v : Value) (n : Nat) (xs : List Value) (hs : a.eval s = v) (hown : w.ownsRow base e size v n xs) (A : Option Addr) (m c : Nat) (news : List Value) (hx : a.eval x = .slice A m c) (hv : Vw w A news) (hA : A = none → m = 0) (hl : news.length = m * size) (h1 : OneC news)
    (hN : (n + m) * bytes ≤ 140737488355328) (hbase : base ≤ w.heap.size)
    (h : ∀ v' w', w'.ownsRow base e size v' (n + m) (xs ++ news) → w.grownBy w' v.ownBlock → (v'.ownBlock = v.ownBlock ∨ v'.ownBlock = some w.heap.size) → K (a.put o.dst v') w') : o.wp P a w K Q := by
  obtain ⟨v', w', hrun, h2, h3, h4⟩ := app_run T o.type base v n xs hown A m c news hv hA hl h1 hN hbase
  unfold Oper.wp execOp
  simp only [ho, resolve, invoke, builtin, Sem.run_bind, Sem.run_pure, Result.andThen_ok, List.map_toArray, List.map_cons, List.map_nil, hs, hx, hrun]
  exact h v' w' h2 h3 h4
/-- In a plain region. -/
theorem app_list (T : ElT P t e size bytes) {ops : Array Oper} {rest : List Oper} {o : Oper} {a : Act} {Q : Exit → Act → World → Prop} (hgd : o.guard = none) (s x : Operand) (ho : o.op = .call { callee := .builtin .append, args := #[s, x], argTypes := #[t, t] })
    (base : Nat) (v : Value) (n : Nat) (xs : List Value) (hs : a.eval s = v) (hown : w.ownsRow base e size v n xs) (A : Option Addr) (m c : Nat) (news : List Value) (hx : a.eval x = .slice A m c) (hv : Vw w A news) (hA : A = none → m = 0) (hl : news.length = m * size) (h1 : OneC news)
    (hN : (n + m) * bytes ≤ 140737488355328) (hbase : base ≤ w.heap.size)
    (h : ∀ v' w', w'.ownsRow base e size v' (n + m) (xs ++ news) → w.grownBy w' v.ownBlock → (v'.ownBlock = v.ownBlock ∨ v'.ownBlock = some w.heap.size) → wpList P ops Q rest (a.put o.dst v') w') : wpList P ops Q (o :: rest) a w :=
  wpList_plain hgd fun _ hK => app_wp T s x ho base v n xs hs hown A m c news hx hv hA hl h1 hN hbase fun v' w' h2 h3 h4 => hK _ _ (h v' w' h2 h3 h4)
/-- In a region that draws. -/
theorem app_step (T : ElT P t e size bytes) {ops : Array Oper} {o : Oper} {a : Act} {K : Act → World → Prop} {Q : Exit → Act → World → Prop} {E : Prop} (hgd : o.guard = none) (s x : Operand) (ho : o.op = .call { callee := .builtin .append, args := #[s, x], argTypes := #[t, t] })
    (base : Nat) (v : Value) (n : Nat) (xs : List Value) (hs : a.eval s = v) (hown : w.ownsRow base e size v n xs) (A : Option Addr) (m c : Nat) (news : List Value) (hx : a.eval x = .slice A m c) (hv : Vw w A news) (hA : A = none → m = 0) (hl : news.length = m * size) (h1 : OneC news)
    (hN : (n + m) * bytes ≤ 140737488355328) (hbase : base ≤ w.heap.size)
    (h : ∀ v' w', w'.ownsRow base e size v' (n + m) (xs ++ news) → w.grownBy w' v.ownBlock → (v'.ownBlock = v.ownBlock ∨ v'.ownBlock = some w.heap.size) → K (a.put o.dst v') w') :
    if Region.wanted o (yielded ops a.tmps) = true then Oper.wp P o a w K Q else E := by
  have hw : Region.wanted o (yielded ops a.tmps) = true := by simp [Region.wanted, hgd]
  rw [if_pos hw]
  exact app_wp T s x ho base v n xs hs hown A m c news hx hv hA hl h1 hN hbase h
end
/-- The cells of a block known whole, read as a slice. -/
theorem vw_blk {w : World} {g : Nat} {t : TypeId} {cs : Array Value} (h : Blk w g t cs) : Vw w (some ⟨g, 0, none⟩) cs.toList := fun i v hi => ⟨g, 0, rfl, by rw [Nat.zero_add, h.cell i]; simpa using hi⟩
theorem vw_new (w : World) (t : TypeId) (cs : Array Value) : Vw (w.alloc (.cells cs t)) (some ⟨w.heap.size, 0, none⟩) cs.toList := vw_blk (Blk.new w t cs)
theorem oneC_int (l : List Int) : OneC (intCells l) := fun u hu => by
  obtain ⟨x, _, rfl⟩ := List.mem_map.1 hu; rfl
theorem oneC_cells {α : Type} {enc : α → List Value} (h : ∀ x, OneC (enc x)) (l : List α) : OneC (cellsOf enc l) := fun u hu => by
  obtain ⟨x, _, hx⟩ := List.mem_flatMap.1 hu
  exact h x u hx
theorem oneC_rc (q : Rc) : OneC (encRc q) := fun u hu => by simp [encRc] at hu; rcases hu with rfl | rfl | rfl | rfl <;> rfl
theorem oneC_sp (q : Sp) : OneC (encSp q) := fun u hu => by simp [encSp] at hu; rcases hu with rfl | rfl <;> rfl
/-- An empty literal. -/
theorem own_lit0 {w : World} {g base : Nat} {t : TypeId} {k : Nat} (h : Blk w g t #[]) (hb : base ≤ g) : w.ownsRow base t k (.slice (some ⟨g, 0, none⟩) 0 0) 0 [] := ⟨by simp, .inr ⟨g, 0, #[], rfl, hb, h, Nat.le_refl _, Nat.zero_le _, by simp, by simp⟩⟩
/-- A block of another type than the row's stands behind an append. -/
theorem blk_app {w w' : World} {g base k n : Nat} {t e : TypeId} {cs : Array Value} {v : Value} {xs : List Value} (h : Blk w g t cs) (ho : w.ownsRow base e k v n xs) (hg : w.grownBy w' v.ownBlock) (hne : t ≠ e) : Blk w' g t cs := by
  refine (hg.block g h.lt ?_).trans h
  rcases ho.2 with ⟨rfl, _⟩ | ⟨g', cap, cur, rfl, _, hh, _⟩
  · simp [Value.ownBlock]
  · intro c
    have : g = g' := by simpa [Value.ownBlock] using c
    subst this
    rw [show w.heap[g]? = _ from h] at hh
    cases hh; exact hne rfl
theorem bdn {a w : World} (h : Below a.heap.size a w) (n : Nat) : Below a.heap.size a (w.drewN n) := ⟨h.os, h.tape, h.output, h.size, h.block⟩
theorem own_keep {w w' : World} {base n size : Nat} {v : Value} {e : TypeId} {xs : List Value} (h : w.ownsRow base e size v n xs) (hb : Below w.heap.size w w') : w'.ownsRow base e size v n xs :=
  h.kept (row := none) ⟨hb.os, hb.tape, hb.output, hb.size, fun k hk _ => hb.block k hk⟩ (by cases h : v.ownBlock <;> simp)
theorem own_some {w : World} {base n size : Nat} {v : Value} {e : TypeId} {xs : List Value} (h : w.ownsRow base e size v (n + 1) xs) : ∃ g cap, v = .slice (some ⟨g, 0, none⟩) (n + 1) cap ∧ n + 1 ≤ cap ∧ cap ≤ maxLen ∧ base ≤ g ∧ g < w.heap.size := by
  obtain ⟨a, cap, rfl, h1, h2, h3⟩ := own_form h
  rcases h3 with ⟨_, h4, _⟩ | ⟨g, rfl, h4, h5⟩
  · omega
  · exact ⟨g, cap, rfl, h1, h2, h4, h5⟩
theorem own_base {w : World} {b b' : Nat} {e : TypeId} {size : Nat} {v : Value} {n : Nat} {xs : List Value} (h : w.ownsRow b e size v n xs) (hb : b' ≤ b) : w.ownsRow b' e size v n xs := by
  refine ⟨h.1, ?_⟩
  rcases h.2 with h | ⟨g, cap, cur, h1, h2, h3⟩
  · exact .inl h
  · exact .inr ⟨g, cap, cur, h1, Nat.le_trans hb h2, h3⟩
/-- A store into a row of the call's own. -/
theorem below_put {w wr : World} {t : TypeId} {k n g cap : Nat} {xs : List Value} (h : wr.ownsRow w.heap.size t k (.slice (some ⟨g, 0, none⟩) n cap) n xs) (hb : Below w.heap.size w wr) (o : Nat) (u : Value) : Below w.heap.size w (wr.setCell ⟨g, o, none⟩ u) :=
  bst hb g o u (own_lt h).1
theorem rcCells_snoc (l : List Rc) (x : Rc) : rcCells (l ++ [x]) = rcCells l ++ encRc x := cellsOf_snoc l x
theorem spCells_snoc (l : List Sp) (x : Sp) : spCells (l ++ [x]) = spCells l ++ encSp x := cellsOf_snoc l x
theorem elRc : ElT Tryz.prog 24 73 4 32 := .mk' Tryz.underlying24 infoRc rfl (by decide) (by decide)
theorem elSp : ElT Tryz.prog 186 195 2 16 := .mk' Tryz.underlying186 infoSp rfl (by decide) (by decide)
theorem elInt : ElT Tryz.prog 22 3 1 8 := .mk' Tryz.underlying22 infoInt rfl (by decide) (by decide)
end Go.Proofs.YtglhenobodndjaaGreatDoor
