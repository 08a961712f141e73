/- On which days a phase is open: the program's Open. -/
import Derived.Test.YtlfcdjgmegfjoaaSdec
namespace Go.Proofs.Ytlfcdjgmegfjoaa
open Go.RowKit Go.Shelf
set_option linter.unusedVariables false
attribute [local go_sem] Oper.semAt_some

def isOpen (s : Int) (l : List (Int × Int)) (v d : Int) : Prop := lowB s l d < v ∧ v ≤ highB s l d
instance (s : Int) (l : List (Int × Int)) (v d : Int) : Decidable (isOpen s l v d) := by unfold isOpen; infer_instance
def opn (s : Int) (l : List (Int × Int)) (v : Int) (ds : List Int) : List Int := ds.filter fun d => decide (isOpen s l v d)
theorem opn_hit {s : Int} {l : List (Int × Int)} {v : Int} (pre : List Int) {x : Int} (h : isOpen s l v x) : opn s l v (pre ++ [x]) = opn s l v pre ++ [x] := by simp [opn, h]
theorem opn_miss {s : Int} {l : List (Int × Int)} {v : Int} (pre : List Int) {x : Int} (h : ¬ isOpen s l v x) : opn s l v (pre ++ [x]) = opn s l v pre := by simp [opn, h]
def openAny (s : Int) (l : List (Int × Int)) (k0 f u v : Int) : List Int := if chkS s l = 0 then if phE k0 f u v = 0 then opn s l v (dayL f u) else [] else []
/-- A new slice of these integers. -/
def RowPost (xs : List Int) (w : World) (e : Ending) (w' : World) : Prop := ∃ v, e = .returned v ∧ w'.ownsRow w.heap.size 3 1 v xs.length (xs.map (Value.int .i64)) ∧ Below w.heap.size w w'
theorem Try.info3 : (Try.prog.info? 3).map (fun i => (i.zero, i.size, i.bytes)) = some (some (.int .i64 0), 1, 8) := by kernel_rfl

/-- Boxed.appended, where the box lies below the row's floor n: blocks below n other than the box stay. -/
theorem boxed_app {W w1 : World} {m n B : Nat} {t e : TypeId} {size : Nat} {v v' : Value} {k k' : Nat} {xs ys : List Value} {tmp : Obj}
    (hv : Boxed W B t v) (hte : t ≠ e) (hrow : W.ownsRow n e size v k xs) (hn : n ≤ W.heap.size) (hmB : m ≤ B) (hmn : m ≤ n)
    (hown' : w1.ownsRow n e size v' k' ys) (hgrow : (W.alloc tmp).grownBy w1 v.ownBlock) :
    Boxed w1 B t v ∧ Boxed (w1.setCell ⟨B, 0, none⟩ v') B t v' ∧ (w1.setCell ⟨B, 0, none⟩ v').ownsRow n e size v' k' ys ∧ KeepsOthers W (w1.setCell ⟨B, 0, none⟩ v') ∧
      Below m W (w1.setCell ⟨B, 0, none⟩ v') ∧ ∀ i, i < n → i ≠ B → (w1.setCell ⟨B, 0, none⟩ v').heap[i]? = W.heap[i]? := by
  have hv1 : Boxed w1 B t v := (hv.alloc tmp).kept hgrow (hv.not_row hte hrow)
  have hlo : ∀ j, v.ownBlock = some j → n ≤ j := fun j ej => by
    rcases hrow.2 with ⟨rfl, _⟩ | ⟨g, cap, cur, rfl, hb, _, _⟩
    · simp [Value.ownBlock] at ej
    · obtain rfl : g = j := by simpa [Value.ownBlock] using ej
      exact hb
  refine ⟨hv1, hv1.set v', hown'.kept (grownBy_setCell' w1 B v') (.inr (hv1.not_row hte hown').symm), ?_, ?_, ?_⟩
  · refine ((KeepsOthers.alloc W tmp).trans (KeepsOthers.of_grownBy hgrow fun j o ej hj => ?_)).trans (KeepsOthers.setCell _ _ _)
    rcases (hrow.alloc tmp).2 with ⟨rfl, _⟩ | ⟨g, cap, cur, rfl, _, hgb, _⟩
    · simp [Value.ownBlock] at ej
    · obtain rfl : g = j := by simpa [Value.ownBlock] using ej
      rw [hgb] at hj; cases hj; rfl
  · exact (((Below.refl m W).alloc (Nat.le_trans hmn hn) tmp).grown hgrow (by simp; omega) fun j ej => Nat.le_trans hmn (hlo j ej)).setCell (p := ⟨B, 0, none⟩) hmB v'
  · intro i hi hne
    have h1 : (w1.setCell ⟨B, 0, none⟩ v').heap[i]? = w1.heap[i]? := Below.heap_setCell w1 ⟨B, 0, none⟩ v' i hne
    have h2 : w1.heap[i]? = (W.alloc tmp).heap[i]? := hgrow.block i (by simp; omega) (fun e => by have := hlo i e.symm; omega)
    exact (h1.trans h2).trans (Below.heap_alloc W tmp i (by omega))
theorem keepB_of {m Bp Bs n B : Nat} {W X : World} (hs : W.heap.size ≤ X.heap.size) (h : ∀ i, i < n → i ≠ B → X.heap[i]? = W.heap[i]?) (hm : m ≤ n) (hB : m ≤ B) (h1 : Bp < n) (h2 : Bs < n) (h3 : Bp ≠ B) (h4 : Bs ≠ B) : KeepB m Bp Bs W X :=
  ⟨hs, fun k hk => h k (by rcases hk with h | rfl | rfl <;> omega) (by rcases hk with h | rfl | rfl <;> omega)⟩
theorem ownsRow_base {w : World} {b b' : Nat} {e : TypeId} {size : Nat} {v : Value} {n : Nat} {xs : List Value} (h : w.ownsRow b e size v n xs) (hb : b' ≤ b) : w.ownsRow b' e size v n xs := by
  refine ⟨h.1, ?_⟩
  rcases h.2 with h | ⟨g, cap, cur, h1, h2, h3⟩
  · exact .inl h
  · exact .inr ⟨g, cap, cur, h1, Nat.le_trans hb h2, h3⟩

set_option maxHeartbeats 2000000 in
theorem pOpen_bad (s : Int) (a : Option Addr) (len cap : Nat) (l : List (Int × Int)) (w : World) (hS : Ser w a l) (hl : l.length = len) (hcap : len ≤ 9223372036854775807) (k0 f u v : Int) (c : Int) (hc : chkS s l = c) (h : c ≠ 0) :
    Calls Try.prog 21 #[.agg #[.int .i64 s, .slice a len cap], .agg #[.int .i64 k0, .int .i64 f, .int .i64 u, .int .i64 v]] w (RowPost [] w) := by
  have SS := Lib.hid hS
  clear hS
  go_enter Try.func21, Try.ntmps21
  go_wp2_with (go_at_call 14; refine (pcheck_any s a len cap l _ ((SS.out.alloc _).alloc _) hl hcap).mono ?_; rw [hc]; rintro e w1 ⟨rfl, hb1⟩)
  all_goals first | (exfalso; omega) | (go_ret; exact ⟨_, rfl, World.ownsRow_nil _ _ _ _, by (repeat (with_reducible first | (refine bst ?_ _ _ _ (by omega)) | refine bal ?_ _ | refine bdr ?_ | exact Below.refl _ _ | refine btr ?_ hb1))⟩)

set_option maxHeartbeats 2000000 in
theorem pOpen_ph (s : Int) (a : Option Addr) (len cap : Nat) (l : List (Int × Int)) (w : World) (hS : Ser w a l) (hl : l.length = len) (hcap : len ≤ 9223372036854775807) (k0 f u v : Int) (c : Int) (hc : chkS s l = 0) (hp : phE k0 f u v = c) (h : c ≠ 0) :
    Calls Try.prog 21 #[.agg #[.int .i64 s, .slice a len cap], .agg #[.int .i64 k0, .int .i64 f, .int .i64 u, .int .i64 v]] w (RowPost [] w) := by
  have SS := Lib.hid hS
  clear hS
  go_enter Try.func21, Try.ntmps21
  go_wp2_with first | (go_at_call 14; refine (pcheck_any s a len cap l _ ((SS.out.alloc _).alloc _) hl hcap).mono ?_; rw [hc]; rintro e w1 ⟨rfl, hb1⟩; have z1 := hb1.size; (try simp at z1); have B3 : Blk w1 (w.heap.size + 1) 27 #[.int .i64 k0, .int .i64 f, .int .i64 u, .int .i64 v] := Blk.below (Blk.fresh (by simp)) hb1; have c0 : w1.cell? ⟨w.heap.size + 1, 0, none⟩ = some (.int .i64 k0) := B3.cell 0; have c1 : w1.cell? ⟨w.heap.size + 1, 1, none⟩ = some (.int .i64 f) := B3.cell 1; have c2 : w1.cell? ⟨w.heap.size + 1, 2, none⟩ = some (.int .i64 u) := B3.cell 2; have c3 : w1.cell? ⟨w.heap.size + 1, 3, none⟩ = some (.int .i64 v) := B3.cell 3) | (go_at_call 18; refine (pphase_any k0 f u v _).mono ?_; rw [hp]; rintro e w2 ⟨rfl, hb2⟩)
  all_goals first | (exfalso; omega) | (go_ret; exact ⟨_, rfl, World.ownsRow_nil _ _ _ _, by (repeat (with_reducible first | (refine bst ?_ _ _ _ (by omega)) | refine bal ?_ _ | refine bdr ?_ | exact Below.refl _ _ | refine btr ?_ hb2 | refine btr ?_ hb1))⟩)

set_option maxRecDepth 100000 in
set_option maxHeartbeats 4000000 in
theorem pOpen_ok (s : Int) (a : Option Addr) (len cap : Nat) (l : List (Int × Int)) (w : World) (hS : Ser w a l) (hl : l.length = len) (hcap : len ≤ 9223372036854775807) (k0 f u v : Int) (hc : chkS s l = 0) (hp : phE k0 f u v = 0) :
    Calls Try.prog 21 #[.agg #[.int .i64 s, .slice a len cap], .agg #[.int .i64 k0, .int .i64 f, .int .i64 u, .int .i64 v]] w (RowPost (opn s l v (dayL f u)) w) := by
  have SS := Lib.hid hS
  have HC := Lib.hid hc
  clear hS hc
  obtain ⟨i0, hi, hz0, hz1, hz2⟩ := info_parts Try.info3
  have HI := Lib.hid hi
  have HZ := Lib.hid (And.intro hz0 (And.intro hz1 hz2))
  clear hi hz0 hz1 hz2
  refine (callsIn_wide (n := 3)).1 ?_
  refine callsIn_of_wp_marks Try.func21 rfl trivial ?_ rfl
  simp only [Try.ntmps21, List.size_toArray, List.length_cons, List.length_nil, Nat.reduceAdd, Nat.reduceSub, Array.replicate_succ, Array.replicate_zero, List.push_toArray, List.append_toArray, List.nil_append, List.cons_append]
  gi_wp2_with first | (refine ⟨trivial, ?_⟩; gi_at_call 14; refine (callsIn_wide.2 (pcheck_any s a len cap l _ ((SS.out.alloc _).alloc _) hl hcap)).mono ?_; rw [HC.out]; rintro e w1 ⟨rfl, hb1⟩; have z1 := hb1.size; (try simp at z1); have B2 : Blk w1 w.heap.size 25 #[.int .i64 s, .slice a len cap] := Blk.below (Blk.alloc (Blk.fresh rfl) _) hb1; have B3 : Blk w1 (w.heap.size + 1) 27 #[.int .i64 k0, .int .i64 f, .int .i64 u, .int .i64 v] := Blk.below (Blk.fresh (by simp)) hb1; have c0 : w1.cell? ⟨w.heap.size + 1, 0, none⟩ = some (.int .i64 k0) := B3.cell 0; have c1 : w1.cell? ⟨w.heap.size + 1, 1, none⟩ = some (.int .i64 f) := B3.cell 1; have c2 : w1.cell? ⟨w.heap.size + 1, 2, none⟩ = some (.int .i64 u) := B3.cell 2; have c3 : w1.cell? ⟨w.heap.size + 1, 3, none⟩ = some (.int .i64 v) := B3.cell 3) | (refine ⟨trivial, ?_⟩; gi_at_call 18; refine (callsIn_wide.2 (pphase_any k0 f u v _)).mono ?_; rw [hp]; rintro e w2 ⟨rfl, hb2⟩; have z2 := hb2.size; replace B2 := B2.below hb2; replace B3 := B3.below hb2; have y2 := B2.lt; have y3 := B3.lt; clear c0 c1 c2 c3; have c0 : w2.cell? ⟨w.heap.size + 1, 0, none⟩ = some (.int .i64 k0) := B3.cell 0; have c1 : w2.cell? ⟨w.heap.size + 1, 1, none⟩ = some (.int .i64 f) := B3.cell 1; have c2 : w2.cell? ⟨w.heap.size + 1, 2, none⟩ = some (.int .i64 u) := B3.cell 2; have c3 : w2.cell? ⟨w.heap.size + 1, 3, none⟩ = some (.int .i64 v) := B3.cell 3; have d0 : w2.cell? ⟨w.heap.size, 0, none⟩ = some (.int .i64 s) := B2.cell 0; have d1 : w2.cell? ⟨w.heap.size, 1, none⟩ = some (.slice a len cap) := B2.cell 1) | (refine ⟨trivial, ?_⟩; gi_at_call 37; refine (days_in Fence.wide _ trivial rfl s a len cap k0 f u v _).mono ?_; rintro e w3 ⟨rfl, rfl⟩)
  obtain ⟨hk1, hk4, hf0, hfu, hu, hv⟩ := phE_ok hp
  have b5 := ((Boxed.new w2 22 (.slice none 0 0)).alloc (.cells #[.int .i64 s, .slice a len cap] 25)).alloc (.cells #[.int .i64 k0, .int .i64 f, .int .i64 u, .int .i64 v] 27)
  have bs := (Blk.fresh (w := w2.alloc (.cells #[.slice none 0 0] 22)) (g := w2.heap.size + 1) (t := 25) (cs := #[.int .i64 s, .slice a len cap]) (by simp)).alloc (.cells #[.int .i64 k0, .int .i64 f, .int .i64 u, .int .i64 v] 27)
  have bp := Blk.fresh (w := (w2.alloc (.cells #[.slice none 0 0] 22)).alloc (.cells #[.int .i64 s, .slice a len cap] 25)) (g := w2.heap.size + 1 + 1) (t := 27) (cs := #[.int .i64 k0, .int .i64 f, .int .i64 u, .int .i64 v]) (by simp)
  have b3 := ((B3.alloc (.cells #[.slice none 0 0] 22)).alloc (.cells #[.int .i64 s, .slice a len cap] 25)).alloc (.cells #[.int .i64 k0, .int .i64 f, .int .i64 u, .int .i64 v] 27)
  have hB0 : Below w.heap.size w (((w2.alloc (.cells #[.slice none 0 0] 22)).alloc (.cells #[.int .i64 s, .slice a len cap] 25)).alloc (.cells #[.int .i64 k0, .int .i64 f, .int .i64 u, .int .i64 v] 27)) := bal (bal (bal (btr (btr (bal (bal (Below.refl _ _) _) _) hb1) hb2) _) _) _
  have hsz : (((w2.alloc (.cells #[.slice none 0 0] 22)).alloc (.cells #[.int .i64 s, .slice a len cap] 25)).alloc (.cells #[.int .i64 k0, .int .i64 f, .int .i64 u, .int .i64 v] 27)).heap.size = w2.heap.size + 3 := by simp
  obtain ⟨W0, hW0⟩ : ∃ W0, ((w2.alloc (.cells #[.slice none 0 0] 22)).alloc (.cells #[.int .i64 s, .slice a len cap] 25)).alloc (.cells #[.int .i64 k0, .int .i64 f, .int .i64 u, .int .i64 v] 27) = W0 := ⟨_, rfl⟩
  rw [hW0] at b5 bs bp b3 hB0 hsz ⊢
  clear hW0 c0 c1 c2 c3 d0 d1 B2 B3
  refine wpIn_rangeFunc_ownH rfl (by omega) (gf := 40) (lb := #[.pointer (some ⟨w2.heap.size + 1 + 1, 0, none⟩), .pointer (some ⟨w2.heap.size + 1, 0, none⟩)]) rfl trivial (enters_of Try.func40 (by kernel_rfl) rfl)
    (days_stops 2 (by omega) (w2.heap.size + 1 + 1) (w2.heap.size + 1) w.heap.size s a len cap l hl HC.out k0 f u v hf0 hfu hu W0 (by omega) bp bs ⟨SS.out.below hB0, (SerB.of SS.out).2⟩)
    KeepB.trans (keepB_b (by omega) (by omega) (by omega)) (Below.refl _ _) (fun _ => rfl)
    (fun pre W => (((∃ v', Boxed W w2.heap.size 22 v' ∧ W.ownsRow (w2.heap.size + 3) 3 1 v' (opn s l v pre).length ((opn s l v pre).map (Value.int .i64)) ∧ True) ∧ Blk W (w.heap.size + 1) 27 #[.int .i64 k0, .int .i64 f, .int .i64 u, .int .i64 v]) ∧ Below w.heap.size w W) ∧ W0.heap.size ≤ W.heap.size)
    (fun _ _ _ => False)
    (OwnFrom.and (OwnFrom.and (OwnFrom.and (Own.from (holdsRow_own (w2.heap.size + 3) w2.heap.size 22 3 1 (fun pre => (opn s l v pre).length) (fun pre => (opn s l v pre).map (Value.int .i64)) (fun _ _ => True)) _) (Own.from (blk_own _ _ _) _)) (ownFrom_below (Nat.le_refl _) (by omega))) (ownFrom_size _ _))
    (fun _ _ _ _ _ hs _ _ => hs)
    ⟨⟨⟨⟨_, b5, World.ownsRow_nil _ _ _ _, trivial⟩, b3⟩, hB0⟩, Nat.le_refl _⟩
    (fun x a' W => ∃ Bx, W0.heap.size ≤ Bx ∧ Blk W Bx 60 #[.int .i64 (lowB s l x), .int .i64 (highB s l x)] ∧ a' = { tmps := #[.agg #[.int .i64 s, .slice a len cap], .agg #[.int .i64 k0, .int .i64 f, .int .i64 u, .int .i64 v], .pointer (some ⟨w.heap.size, 0, none⟩), .pointer (some ⟨w.heap.size + 1, 0, none⟩), .slice none 0 0, .pointer (some ⟨w2.heap.size, 0, none⟩), .int .i64 x, .pointer (some ⟨Bx, 0, none⟩), .agg #[.int .i64 s, .slice a len cap], .int .i64 0, .bool false, .bool false, .agg #[.int .i64 k0, .int .i64 f, .int .i64 u, .int .i64 v], .int .i64 0, .bool false, .bool false, .agg #[.int .i64 s, .slice a len cap], .agg #[.int .i64 k0, .int .i64 f, .int .i64 u, .int .i64 v], .func (.func 40) #[] #[.pointer (some ⟨w2.heap.size + 1 + 1, 0, none⟩), .pointer (some ⟨w2.heap.size + 1, 0, none⟩)], .int .i64 x, .agg #[.int .i64 (lowB s l x), .int .i64 (highB s l x)], undef, undef, undef, undef, undef, undef, undef, undef, undef, undef, undef, undef, undef, undef, undef, undef, undef], defers := [] })
    (fun x a' _ X Y row hs hg hr => by obtain ⟨Bx, h1, h2, h3⟩ := hs; exact ⟨Bx, h1, blk_own Bx 60 (fun (_ : Unit) => #[.int .i64 (lowB s l x), .int .i64 (highB s l x)]) () X Y row h2 hg (fun r e => (hr r e).2), h3⟩)
    ?assign ?body ?done ?stop
  case assign =>
    rintro L pre x W K ⟨⟨⟨⟨v', b51, hrow, _⟩, b31⟩, hB1⟩, hs1⟩ hK
    simp only [dayEnc]
    gi_wp2
    exact hK _ _ ((KeepsOthers.alloc _ _).from _) (KeepB.below (by omega) (by omega) (by omega) ((Below.refl _ W).alloc (Nat.le_refl _) _)) ⟨⟨⟨⟨v', b51.alloc _, hrow.alloc _, trivial⟩, b31.alloc _⟩, bal hB1 _⟩, by simp; omega⟩ ⟨W.heap.size, hs1, Blk.fresh rfl, rfl⟩
  case body =>
    rintro L pre x a' W hL ⟨r, hr⟩ ⟨⟨⟨⟨v', b51, hrow, _⟩, b31⟩, hB1⟩, hs1⟩ ⟨Bx, hBx, bX, rfl⟩ hlt
    have hB1' := Lib.hid hB1
    have h51 := Lib.hid b51; have h31 := Lib.hid b31; have HR := Lib.hid hrow
    have x0 : W.cell? ⟨Bx, 0, none⟩ = some (.int .i64 (lowB s l x)) := bX.cell 0
    have x1 : W.cell? ⟨Bx, 1, none⟩ = some (.int .i64 (highB s l x)) := bX.cell 1
    have p3 : W.cell? ⟨w.heap.size + 1, 3, none⟩ = some (.int .i64 v) := b31.cell 3
    have hc5 := b51.cell
    have hpl : (opn s l v pre).length ≤ pre.length := List.length_filter_le _ _
    have hu2 := hu.2
    clear hB1 b51 b31 bX hrow
    by_cases o1 : lowB s l x < v
    · by_cases o2 : v ≤ highB s l x
      · have HO := Lib.hid (opn_hit (s := s) (l := l) (v := v) pre (x := x) ⟨o1, o2⟩)
        gi_wp2_with (gi_at_builtin; refine wpListIn_append_own _ rfl _ _ 22 rfl (w2.heap.size + 3) 3 i0 (.int .i64 0) 1 8 Try.underlying22 HI.out HZ.out.1 HZ.out.2.1 HZ.out.2.2 rfl (by decide) _ _ _ rfl (HR.out.alloc _) ⟨W.heap.size, 0, none⟩ 1 1 [.int .i64 x] rfl rfl (cell_one_new _ _ _) (by simp [Value.oneCell']) (by unfold maxLen; omega) (by omega) (by simp; omega) ?_; intro v2 w9 hown' hgrow _; obtain ⟨g', cap', rfl⟩ := ownsRow_succ hown'; obtain ⟨hv1, hv2, hr2, hk2, hb2, hq2⟩ := boxed_app (m := w.heap.size) h51.out (by decide) HR.out (by omega) (by omega) (by omega) hown' hgrow; have HX := Lib.hid hv2; have HY := Lib.hid hr2; have HK := Lib.hid hk2; have HBB := Lib.hid hb2; have HQ := Lib.hid hq2; have hc1 := hv1.cell; have hf1 := hv1.frozen; clear hv1 hv2 hr2 hk2 hb2 hq2 hown' hgrow)
        exact ⟨HK.out.from _, keepB_of HBB.out.size HQ.out (by omega) (by omega) (by omega) (by omega) (by omega) (by omega), ⟨⟨⟨⟨_, HX.out, by rw [HO.out]; simpa using HY.out, trivial⟩, (HQ.out _ (by omega) (by omega)).trans h31.out⟩, hB1'.out.trans HBB.out⟩, Nat.le_trans hs1 HBB.out.size⟩⟩
      · have HO := Lib.hid (opn_miss (s := s) (l := l) (v := v) pre (x := x) (fun h => o2 h.2))
        gi_wp2
        exact ⟨KeepsFrom.refl _ _, KeepB.refl _, ⟨⟨⟨⟨v', h51.out, by rw [HO.out]; exact HR.out⟩, h31.out⟩, hB1'.out⟩, by omega⟩⟩
    · have HO := Lib.hid (opn_miss (s := s) (l := l) (v := v) pre (x := x) (fun h => o1 h.1))
      gi_wp2
      exact ⟨KeepsFrom.refl _ _, KeepB.refl _, ⟨⟨⟨⟨v', h51.out, by rw [HO.out]; exact HR.out⟩, h31.out⟩, hB1'.out⟩, by omega⟩⟩
  case done =>
    rintro D ys W hD rfl ⟨⟨⟨⟨v', b51, hrow, _⟩, b31⟩, hB1⟩, hs1⟩ hK
    have hc := b51.cell
    have HB := Lib.hid hB1; have HK := Lib.hid hK; have HR := Lib.hid hrow
    clear hB1 hK b51 b31 hrow
    have hfin : Below w.heap.size w (W.putObj D (.deferred none)) := HB.out.trans (belowK_b (w := w) (Nat.le_refl _) W D _ _ (by omega) HK.out rfl rfl)
    gi_wp2
    refine ⟨by simp, .inl ⟨_, _, rfl, run_takeDeferred HK.out, ?_⟩⟩
    refine ⟨_, results_tmp rfl _ _ _, v', rfl, ?_, hfin⟩
    exact ownsRow_base (ownsRow_putObj HR.out (.deferred none) HK.out rfl) (by omega)
  case stop =>
    rintro D c pre W _ _ h _
    exact h.elim

theorem pOpen_any (s : Int) (a : Option Addr) (len cap : Nat) (l : List (Int × Int)) (w : World) (hS : Ser w a l) (hl : l.length = len) (hcap : len ≤ 9223372036854775807) (k0 f u v : Int) :
    Calls Try.prog 21 #[.agg #[.int .i64 s, .slice a len cap], .agg #[.int .i64 k0, .int .i64 f, .int .i64 u, .int .i64 v]] w (RowPost (openAny s l k0 f u v) w) := by
  unfold openAny
  by_cases hc : chkS s l = 0
  · rw [if_pos hc]
    by_cases hp : phE k0 f u v = 0
    · rw [if_pos hp]; exact pOpen_ok s a len cap l w hS hl hcap k0 f u v hc hp
    · rw [if_neg hp]; exact pOpen_ph s a len cap l w hS hl hcap k0 f u v _ hc rfl hp
  · rw [if_neg hc]; exact pOpen_bad s a len cap l w hS hl hcap k0 f u v _ rfl hc
end Go.Proofs.Ytlfcdjgmegfjoaa
