/- The reference's layers: a feature put into its place. (Printed by gen4/ins.py.) -/
import Derived.Test.YtancajcelmhnkaaGreatDoorGn
namespace Go.Proofs.YtancajcelmhnkaaGreatDoor
open Go.RowKit Go.Sort Go.Shelf
set_option linter.unusedVariables false
set_option linter.unusedSimpArgs false
theorem cellsOf_drop {α : Type} {enc : α→List Value} {k : Nat} (hk : ∀ x,(enc x).length = k) (l : List α) (m : Nat) : (cellsOf enc l).drop (m * k) = cellsOf enc (l.drop m):=by
  induction l generalizing m with
  | nil=>simp [cellsOf]
  | cons x l ih =>
    cases m with
    | zero=>simp
    | succ m =>
      have e : cellsOf enc (x :: l) = enc x ++ cellsOf enc l:=by simp [cellsOf]
      rw [e,List.drop_succ_cons,List.drop_append,hk,List.drop_of_length_le (by rw [hk,Nat.add_mul];omega),List.nil_append,show (m + 1) * k - k = m * k by rw [Nat.add_mul];omega,ih]
def FAddP (w : World) (l : List FtrM) (f : FtrM) (e : Ending) (w' : World) : Prop :=
  (e = .returned (.tuple #[.slice none 0 0,.int .i64 6])∧Below w.heap.size w w') ∨
  ∃ (l1 l2 : List FtrM) (a : Option Addr) (n c : Nat),l = l1 ++ l2∧(∀ g ∈ l1,g.number < f.number)∧(∀ g,l2.head? = some g→f.number < g.number)∧e = .returned (.tuple #[.slice a n c,.int .i64 0])∧w'.ownsRow w.heap.size 49 5 (.slice a n c) n (cellsOf encFtr (l1 ++ [f] ++ l2))∧n = (l1 ++ [f] ++ l2).length∧Below w.heap.size w w'
set_option maxRecDepth 100000 in
set_option maxHeartbeats 8000000 in
theorem fadd_any (s : Sc FtrM) (f : FtrM) (w : World) (hR : Rws encFtr w s 58) (hc : s.n≤s.c∧s.c≤maxLen∧(s.a = none→s.c = 0)) (hr : ∀ r ∈ s.l,ScOk2 w r.s) (hg : LayOk (s.l.map FtrM.pl)) (hf : ScOk2 w f.s) (ho : f.pl.Ok) :
    Calls Tryz.prog 49 #[.slice s.a s.n s.c,.agg #[.int .i64 f.number,.int .i64 f.kind,.int .i64 f.since,.int .i64 f.till,.slice f.s.a f.s.n f.s.c]] w (FAddP w s.l f):=by
  obtain ⟨a,n,c,l⟩:=s
  obtain ⟨nu,ki,si,ti,⟨fa,fn,fc,fl⟩⟩:=f
  dsimp only at hr hg hc hf ⊢
  obtain ⟨W,hW⟩ : ∃ W,w.alloc (.cells #[.int .i64 nu,.int .i64 ki,.int .i64 si,.int .i64 ti,.slice fa fn fc] 49) = W:=⟨_,rfl⟩
  have B0 : RowKit.Hid (Blk W w.heap.size 49 #[.int .i64 nu,.int .i64 ki,.int .i64 si,.int .i64 ti,.slice fa fn fc]):=by show Blk _ _ _ _;rw [← hW];exact Blk.new w _ _
  have BB : RowKit.Hid (Below w.heap.size w W):=by show Below _ _ _;rw [← hW];exact (by (repeat (with_reducible first | exact Below.refl _ _ | refine bdr ?_ | refine bdn ?_ _ | refine bal ?_ _)))
  have HG : RowKit.Hid (LGood (l.map FtrM.pl)):=⟨hg.len,fun g hgm=>by obtain ⟨g1,g2,g3,g4,g5⟩:=hg.mem hgm;exact ⟨g1,g3,g4,g5⟩,hg.pair⟩
  have KO : RowKit.Hid (∀ g ∈ l.map FtrM.pl,kindOk g.kind = true):=fun g hgm=>decide_eq_true (hg.mem hgm).kind
  have HCK:=Lib.hid fun W' (hW' : Below w.heap.size w W')=>fcheck_any ⟨a,n,c,l⟩ W' ⟨hR.vw.below hW',hR.len,Nat.le_trans hR.few (by omega),hR.nil⟩ (fun r hr'=>(hr r hr').below hW') HG.out
  have HON:=Lib.hid fun W' (hW' : Below w.heap.size w W')=>fone_any ⟨nu,ki,si,ti,⟨fa,fn,fc,fl⟩⟩ W' (hf.below hW') ⟨ho.number,ho.days,ho.some,ho.valid⟩
  have hk : kindOk ki = true:=decide_eq_true ho.kind
  dsimp only at HON
  rw [hk] at HON
  have HON' : RowKit.Hid (∀ W',Below w.heap.size w W'→Calls Tryz.prog 88 #[.agg #[.int .i64 nu,.int .i64 ki,.int .i64 si,.int .i64 ti,.slice fa fn fc]] W' fun e w'=>e = .returned (.int .i64 0)∧Below W'.heap.size W' w'):=HON.out
  have HV:=Lib.hid hR.vw;have hn : l.length = n:=hR.len;have HN:=Lib.hid hn
  have hm : n≤58:=hR.few
  have HNIL:=Lib.hid hR.nil
  obtain ⟨hc1,hc2,hc3⟩:=hc
  have HC3:=Lib.hid hc3
  unfold maxLen at hc2
  have hne60 : ((n : Int) == 60) = false:=by simp;omega
  clear hR hr hg hf ho hn HON hk hc3
  go_enter Tryz.func49,Tryz.ntmps49
  go_wp2_with (first
    | (go_at_call 58;refine (HCK.out _ BB.out).mono ?_;rintro e w1 ⟨x,rfl,hx,hb1⟩;obtain rfl : x = 0:=hx.1 KO.out;clear hx;have B1:=Lib.hid (B0.out.below hb1);have HB1:=Lib.hid (btr BB.out hb1);clear hb1)
    | (refine wpList_load_row rfl 49 (.tmp 3) rfl w.heap.size rfl _ #[.int .i64 nu,.int .i64 ki,.int .i64 si,.int .i64 ti,.slice fa fn fc] _ _ B1.out Tryz.underlying49 rfl ftInfo ?_)
    | (go_at_call 88;refine (HON'.out _ HB1.out).mono ?_;rintro e w2 ⟨rfl,hb2⟩;have B2:=Lib.hid (B1.out.below hb2);have HB2:=Lib.hid (btr HB1.out hb2);clear hb2))
  go_loopw [8] (fun i wr=>∃ k : Nat,k≤n∧i = .int .i64 k∧(∀ j (h : j < l.length),j < k→l[j].number < nu)∧Below w2.heap.size w2 wr) (fun i _=>n - (intOf i).toNat)
  case atStart=>exact ⟨0,Nat.zero_le _,rfl,(fun j _ h=>absurd h (Nat.not_lt_zero j)),Below.refl _ _⟩
  case round =>
    obtain ⟨k,hk,rfl,hno,hb⟩:=hrel
    have NO:=Lib.hid hno;have HB:=Lib.hid (btr HB2.out hb)
    have BR:=Lib.hid (B2.out.below hb)
    have HVR:=Lib.hid (HV.out.below (btr HB2.out hb))
    have HBR:=Lib.hid hb
    have x0 : wr.cell? ⟨w.heap.size,0,none⟩ = some (.int .i64 nu):=BR.out.cell 0
    clear hno hb
    by_cases hlt : k < n
    · have hlt' : (k : Int) < (n : Int):=by omega
      have hke : k < l.length:=by rw [HN.out];exact hlt
      obtain ⟨b,off,rfl,hbl,hrg⟩:=HVR.out.range (k:=5) (fun x _=>encFtr_len x) (by omega) k hke
      have c0 : wr.cell? ⟨b,off + k * 5,none⟩ = some (.int .i64 l[k].number):=hrg 0 _ rfl
      clear hrg
      obtain ⟨gn,hgn⟩ : ∃ gn,l[k].number = gn:=⟨_,rfl⟩
      rw [hgn] at c0
      have HGN:=Lib.hid hgn
      clear hgn
      have i0 : (0 : Int)≤(k : Int):=by omega
      by_cases h1 : gn < nu
      · have h1' : decide (gn < nu) = true:=decide_eq_true h1
        go_wp2
        go_quiet (fail)
        go_wp2
        go_roundw
        case rel =>
          refine ⟨k + 1,by omega,by go_num,fun j hj hjk=>?_,(by (repeat (with_reducible first | exact HBR.out | exact Below.refl _ _ | refine bdr ?_ | refine bdn ?_ _ | refine bal ?_ _)))⟩
          by_cases e : j = k
          · subst e;rw [HGN.out];exact h1
          · exact NO.out j hj (by omega)
        case measure=>simp [intOf];omega
      · have h1' : decide (gn < nu) = false:=decide_eq_false h1
        by_cases h2 : gn = nu
        · subst h2
          go_wp2
          go_quiet (fail)
          go_wp2
          go_quiet (fail)
          go_wp2
          go_ret2
          exact .inl ⟨rfl,(by (repeat (with_reducible first | exact HB.out | exact Below.refl _ _ | refine bdr ?_ | refine bdn ?_ _ | refine bal ?_ _)))⟩
        · have h2' : ((gn : Int) == nu) = false:=by simpa using h2
          have H2:=Lib.hid h2
          clear h2
          have FIN : RowKit.Hid (∀ (W' : World) (a3 : Option Addr) (c3 : Nat),W'.ownsRow wr.heap.size 49 5 (.slice a3 (k + 1 + (n - k)) c3) (k + 1 + (n - k)) ((cellsOf encFtr l).take (k * 5) ++ [.int .i64 nu,.int .i64 ki,.int .i64 si,.int .i64 ti,.slice fa fn fc] ++ (cellsOf encFtr l).drop (k * 5))→Below wr.heap.size wr W'→FAddP w l ⟨nu,ki,si,ti,⟨fa,fn,fc,fl⟩⟩ (.returned (.tuple #[.slice a3 (k + 1 + (n - k)) c3,.int .i64 0])) W'):=fun W' a3 c3 h3 hb3=>by
            have hln:=HN.out
            refine .inr ⟨l.take k,l.drop k,a3,_,c3,(List.take_append_drop k l).symm,fun g hg=>?_,fun g hg=>?_,rfl,?_,by simp;omega,btr HB.out hb3⟩
            · obtain ⟨j,hj,rfl⟩:=List.getElem_of_mem hg
              rw [List.length_take] at hj
              rw [List.getElem_take]
              exact NO.out j (by omega) (by omega)
            · rw [List.head?_drop,List.getElem?_eq_getElem hke] at hg
              cases hg
              have:=HGN.out;have:=H2.out
              show nu < l[k].number
              omega
            · have e : cellsOf encFtr (l.take k ++ [⟨nu,ki,si,ti,⟨fa,fn,fc,fl⟩⟩] ++ l.drop k) = (cellsOf encFtr l).take (k * 5) ++ [.int .i64 nu,.int .i64 ki,.int .i64 si,.int .i64 ti,.slice fa fn fc] ++ (cellsOf encFtr l).drop (k * 5):=by
                rw [cellsOf_append,cellsOf_append,← cellsOf_take encFtr_len,cellsOf_drop encFtr_len];rfl
              rw [e]
              exact own_base h3 HB.out.size
          have VP:=Lib.hid (HVR.out.take (k * 5))
          have NP : RowKit.Hid (some (⟨b,off,none⟩ : Addr) = none→k = 0):=fun h=>by cases h
          have LP : RowKit.Hid (((cellsOf encFtr l).take (k * 5)).length = k * 5):=by have:=HN.out;show ((cellsOf encFtr l).take (k * 5)).length = _;rw [List.length_take,cellsOf_length encFtr_len];omega
          have LS : RowKit.Hid (((cellsOf encFtr l).drop (k * 5)).length = (n - k) * 5):=by have:=HN.out;show ((cellsOf encFtr l).drop (k * 5)).length = _;rw [List.length_drop,cellsOf_length encFtr_len];omega
          have OX : RowKit.Hid (OneC (cellsOf encFtr l)):=oneC_cells oneC_ft l
          have OS : RowKit.Hid (OneC ((cellsOf encFtr l).drop (k * 5))):=fun u hu=>OX.out u (List.mem_of_mem_drop hu)
          have VS:=Lib.hid (HVR.out.drop (k * 5))
          have NS : RowKit.Hid (some (⟨b,off + k * 5,none⟩ : Addr) = none→n - k = 0):=fun h=>by cases h
          have hck : ¬ c = k:=by omega
          have i2 : (k : Int)≤(c : Int):=by omega
          have i3 : (k : Int)≤(n : Int):=by omega
          have hwr : w.heap.size < wr.heap.size:=BR.out.lt
          go_wp2
          go_quiet (fail)
          go_wp2
          obtain ⟨q1,hq1⟩ : ∃ q1,q1 = nq:=⟨_,rfl⟩
          subst hq1
          go_quiet (fail)
          go_wp2
          obtain ⟨W9,hW9⟩ : ∃ W9,wr.drewN (q1 + nq) = W9:=⟨_,rfl⟩
          have BW9 : RowKit.Hid (Below wr.heap.size wr W9):=by show Below _ _ _;rw [← hW9];exact (by (repeat (with_reducible first | exact Below.refl _ _ | refine bdr ?_ | refine bdn ?_ _ | refine bal ?_ _)))
          have BR9 : RowKit.Hid (Blk W9 w.heap.size 49 #[.int .i64 nu,.int .i64 ki,.int .i64 si,.int .i64 ti,.slice fa fn fc]):=BR.out.below BW9.out
          have E9 : RowKit.Hid (W9.heap.size = wr.heap.size):=by show W9.heap.size = wr.heap.size;rw [← hW9];rfl
          have VP:=Lib.hid (VP.out.below BW9.out)
          have VS:=Lib.hid (VS.out.below BW9.out)
          rw [hW9]
          clear hW9 x0
          have x0 : W9.cell? ⟨w.heap.size,0,none⟩ = some (.int .i64 nu):=BR9.out.cell 0
          have x1 : W9.cell? ⟨w.heap.size,1,none⟩ = some (.int .i64 ki):=BR9.out.cell 1
          have x2 : W9.cell? ⟨w.heap.size,2,none⟩ = some (.int .i64 si):=BR9.out.cell 2
          have x3 : W9.cell? ⟨w.heap.size,3,none⟩ = some (.int .i64 ti):=BR9.out.cell 3
          have x4 : W9.cell? ⟨w.heap.size,4,none⟩ = some (.slice fa fn fc):=BR9.out.cell 4
          have y9 : w.heap.size < W9.heap.size:=BR9.out.lt
          go_region_held3 (fun w'=>w'.cell? ⟨w.heap.size,0,none⟩ = some (.int .i64 nu)∧w'.cell? ⟨w.heap.size,1,none⟩ = some (.int .i64 ki)∧w'.cell? ⟨w.heap.size,2,none⟩ = some (.int .i64 si)∧w'.cell? ⟨w.heap.size,3,none⟩ = some (.int .i64 ti)∧w'.cell? ⟨w.heap.size,4,none⟩ = some (.slice fa fn fc)) (first | exact ⟨x0,x1,x2,x3,x4⟩ | exact ⟨ka x0,ka x1,ka x2,ka x3,ka x4⟩ | exact ⟨bc1 B3 x0,bc1 B3 x1,bc1 B3 x2,bc1 B3 x3,bc1 B3 x4⟩ | exact ⟨bc1 B2 x0,bc1 B2 x1,bc1 B2 x2,bc1 B2 x3,bc1 B2 x4⟩ | exact ⟨bc1 B1 x0,bc1 B1 x1,bc1 B1 x2,bc1 B1 x3,bc1 B1 x4⟩ | exact ⟨ka (bc1 B1 x0),ka (bc1 B1 x1),ka (bc1 B1 x2),ka (bc1 B1 x3),ka (bc1 B1 x4)⟩ | exact ⟨bc1 (bal B1 _) x0,bc1 (bal B1 _) x1,bc1 (bal B1 _) x2,bc1 (bal B1 _) x3,bc1 (bal B1 _) x4⟩ | exact ⟨bc1 (bal (bdr B1) _) x0,bc1 (bal (bdr B1) _) x1,bc1 (bal (bdr B1) _) x2,bc1 (bal (bdr B1) _) x3,bc1 (bal (bdr B1) _) x4⟩ | simp [go_sem, *]) (first
                        | (refine app_step elFt (by rfl) _ _ (by rfl) W9.heap.size (.slice (some ⟨W9.heap.size,0,none⟩) 0 0) 0 [] (by rfl) (own_lit0 (t:=49) (by first | exact Blk.fresh (by simp) | exact (Blk.fresh (by simp)).drew | exact (Blk.fresh (by simp)).alloc _ | exact ((Blk.fresh (by simp)).alloc _).drew) (by omega)) _ k _ ((cellsOf encFtr l).take (k * 5)) (by rfl) (VP.out.below (by (repeat (with_reducible first | exact Below.refl _ _ | refine bdr ?_ | refine bdn ?_ _ | refine bal ?_ _)))) NP.out LP.out (oneC_take OX.out _) (by omega) (by (simp <;> omega)) ?_;intro v1 w1 hown1 hg1 hat1;have K1:=fun g cs (h : Blk _ g 49 cs) (hne : g ≠ W9.heap.size)=>Eq.trans (hg1.block g (Blk.lt h) (by simpa [Value.ownBlock] using hne)) h;have B1 : Below W9.heap.size W9 w1:=Below.grown (by (repeat (with_reducible first | exact Below.refl _ _ | refine bdr ?_ | refine bdn ?_ _ | refine bal ?_ _))) hg1 (by (simp <;> omega)) (by intro q hq;simp [Value.ownBlock] at hq;omega);have z1:=B1.size)
                        | (refine app_step elFt (by rfl) _ _ (by rfl) W9.heap.size (.slice (some ⟨(W9.heap.size + 1),0,none⟩) 0 0) 0 [] (by rfl) (own_lit0 (t:=49) (by first | exact Blk.fresh (by simp) | exact (Blk.fresh (by simp)).drew | exact (Blk.fresh (by simp)).alloc _ | exact ((Blk.fresh (by simp)).alloc _).drew) (by omega)) _ k _ ((cellsOf encFtr l).take (k * 5)) (by rfl) (VP.out.below (by (repeat (with_reducible first | exact Below.refl _ _ | refine bdr ?_ | refine bdn ?_ _ | refine bal ?_ _)))) NP.out LP.out (oneC_take OX.out _) (by omega) (by (simp <;> omega)) ?_;intro v1 w1 hown1 hg1 hat1;have K1:=fun g cs (h : Blk _ g 49 cs) (hne : g ≠ (W9.heap.size + 1))=>Eq.trans (hg1.block g (Blk.lt h) (by simpa [Value.ownBlock] using hne)) h;have B1 : Below W9.heap.size W9 w1:=Below.grown (by (repeat (with_reducible first | exact Below.refl _ _ | refine bdr ?_ | refine bdn ?_ _ | refine bal ?_ _))) hg1 (by (simp <;> omega)) (by intro q hq;simp [Value.ownBlock] at hq;omega);have z1:=B1.size)
                        | (refine app_step elFt (by rfl) _ _ (by rfl) W9.heap.size v1 (0 + k) _ (by rfl) (by first | exact hown1 | exact hown1.alloc _) _ 1 _ [.int .i64 nu,.int .i64 ki,.int .i64 si,.int .i64 ti,.slice fa fn fc] (by rfl) (by first | exact vw_blk (Blk.fresh (by simp)) | exact vw_blk (K1 (W9.heap.size + 1) (List.toArray [.int .i64 nu,.int .i64 ki,.int .i64 si,.int .i64 ti,.slice fa fn fc]) (by first | exact Blk.fresh (by simp) | exact (Blk.fresh (by simp)).drew | exact (Blk.fresh (by simp)).alloc _ | exact ((Blk.fresh (by simp)).alloc _).drew) (by omega)) | exact vw_blk (K1 W9.heap.size (List.toArray [.int .i64 nu,.int .i64 ki,.int .i64 si,.int .i64 ti,.slice fa fn fc]) (by first | exact Blk.fresh (by simp) | exact (Blk.fresh (by simp)).drew | exact (Blk.fresh (by simp)).alloc _ | exact ((Blk.fresh (by simp)).alloc _).drew) (by omega))) (by simp) (by rfl) (oneC_ft ⟨nu,ki,si,ti,⟨fa,fn,fc,fl⟩⟩) (by omega) (by first | exact z1 | (simp;omega)) ?_;intro v2 w2 hown2 hg2 hat2;have B2 : Below W9.heap.size W9 w2:=Below.grown (by (repeat (with_reducible first | exact B1 | exact Below.refl _ _ | refine bdr ?_ | refine bdn ?_ _ | refine bal ?_ _))) hg2 (by first | exact z1 | (simp;omega)) (by intro q hq;exact (hown1.lt q hq).1);have z2:=B2.size)
                        | (refine app_step elFt (by rfl) _ _ (by rfl) W9.heap.size v2 (0 + k + 1) _ (by rfl) hown2 _ (n - k) _ ((cellsOf encFtr l).drop (k * 5)) (by rfl) (VS.out.below B2) NS.out LS.out OS.out (by omega) z2 ?_;intro v3 w3 hown3 hg3 hat3;have B3 : Below W9.heap.size W9 w3:=Below.grown B2 hg3 z2 (by intro q hq;exact (hown2.lt q hq).1);obtain ⟨a3,cap3,rfl,q31,q32,q33⟩:=own_form hown3))
          all_goals
            go_wp2
            go_ret2
            (try simp only [Nat.zero_add,Nat.add_zero] at hown3)
            exact FIN.out _ _ _ (own_base hown3 (by have:=E9.out;omega)) (btr BW9.out B3)
    · obtain rfl : k = n:=by omega
      have hck0 : k≤c:=by omega
      have FIN : RowKit.Hid (∀ (W' : World) (a3 : Option Addr) (c3 : Nat),W'.ownsRow wr.heap.size 49 5 (.slice a3 (k + 1 + 0) c3) (k + 1 + 0) ((cellsOf encFtr l).take (k * 5) ++ [.int .i64 nu,.int .i64 ki,.int .i64 si,.int .i64 ti,.slice fa fn fc] ++ (cellsOf encFtr l).drop (k * 5))→Below wr.heap.size wr W'→FAddP w l ⟨nu,ki,si,ti,⟨fa,fn,fc,fl⟩⟩ (.returned (.tuple #[.slice a3 (k + 1 + 0) c3,.int .i64 0])) W'):=fun W' a3 c3 h3 hb3=>by
        have hln:=HN.out
        have hd : l.drop k = []:=List.drop_eq_nil_of_le (by omega)
        have ht : l.take k = l:=List.take_of_length_le (by omega)
        refine .inr ⟨l,[],a3,_,c3,(by simp),fun g hg=>?_,(fun g hg=>by cases hg),rfl,?_,by simp;omega,btr HB.out hb3⟩
        · obtain ⟨j,hj,rfl⟩:=List.getElem_of_mem hg
          exact NO.out j hj (by omega)
        · have e : cellsOf encFtr (l ++ [⟨nu,ki,si,ti,⟨fa,fn,fc,fl⟩⟩] ++ []) = (cellsOf encFtr l).take (k * 5) ++ [.int .i64 nu,.int .i64 ki,.int .i64 si,.int .i64 ti,.slice fa fn fc] ++ (cellsOf encFtr l).drop (k * 5):=by
            rw [cellsOf_take encFtr_len,cellsOf_drop encFtr_len,hd,ht,List.append_nil,cellsOf_append];simp [cellsOf,encFtr]
          rw [e]
          exact own_base h3 HB.out.size
      have VP:=Lib.hid (HVR.out.take (k * 5))
      have NP : RowKit.Hid (a = none→k = 0):=HNIL.out
      have LP : RowKit.Hid (((cellsOf encFtr l).take (k * 5)).length = k * 5):=by have:=HN.out;show ((cellsOf encFtr l).take (k * 5)).length = _;rw [List.length_take,cellsOf_length encFtr_len];omega
      have LS : RowKit.Hid (((cellsOf encFtr l).drop (k * 5)).length = 0 * 5):=by have:=HN.out;show ((cellsOf encFtr l).drop (k * 5)).length = _;rw [List.length_drop,cellsOf_length encFtr_len];omega
      have OX : RowKit.Hid (OneC (cellsOf encFtr l)):=oneC_cells oneC_ft l
      have OS : RowKit.Hid (OneC ((cellsOf encFtr l).drop (k * 5))):=fun u hu=>OX.out u (List.mem_of_mem_drop hu)
      have VS0 : RowKit.Hid (∀ a,Vw wr a ((cellsOf encFtr l).drop (k * 5))):=fun a=>by
        have e : (cellsOf encFtr l).drop (k * 5) = []:=List.eq_nil_of_length_eq_zero (by simpa using LS.out)
        rw [e];exact Vw.nil _ _
      have i0 : (0 : Int)≤(k : Int):=by omega
      have i2 : (k : Int)≤(c : Int):=by omega
      have hwr : w.heap.size < wr.heap.size:=BR.out.lt
      by_cases hck : c = k
      · obtain rfl : k = c:=hck.symm
        go_wp2
        go_quiet (fail)
        go_wp2
        obtain ⟨q1,hq1⟩ : ∃ q1,q1 = nq:=⟨_,rfl⟩
        subst hq1
        go_quiet (fail)
        go_wp2
        obtain ⟨W9,hW9⟩ : ∃ W9,wr.drewN (q1 + nq) = W9:=⟨_,rfl⟩
        have BW9 : RowKit.Hid (Below wr.heap.size wr W9):=by show Below _ _ _;rw [← hW9];exact (by (repeat (with_reducible first | exact Below.refl _ _ | refine bdr ?_ | refine bdn ?_ _ | refine bal ?_ _)))
        have BR9 : RowKit.Hid (Blk W9 w.heap.size 49 #[.int .i64 nu,.int .i64 ki,.int .i64 si,.int .i64 ti,.slice fa fn fc]):=BR.out.below BW9.out
        have E9 : RowKit.Hid (W9.heap.size = wr.heap.size):=by show W9.heap.size = wr.heap.size;rw [← hW9];rfl
        have VP:=Lib.hid (VP.out.below BW9.out)
        have VS:=Lib.hid fun a=>(VS0.out a).below BW9.out
        rw [hW9]
        clear hW9 x0
        have x0 : W9.cell? ⟨w.heap.size,0,none⟩ = some (.int .i64 nu):=BR9.out.cell 0
        have x1 : W9.cell? ⟨w.heap.size,1,none⟩ = some (.int .i64 ki):=BR9.out.cell 1
        have x2 : W9.cell? ⟨w.heap.size,2,none⟩ = some (.int .i64 si):=BR9.out.cell 2
        have x3 : W9.cell? ⟨w.heap.size,3,none⟩ = some (.int .i64 ti):=BR9.out.cell 3
        have x4 : W9.cell? ⟨w.heap.size,4,none⟩ = some (.slice fa fn fc):=BR9.out.cell 4
        have y9 : w.heap.size < W9.heap.size:=BR9.out.lt
        go_region_held3 (fun w'=>w'.cell? ⟨w.heap.size,0,none⟩ = some (.int .i64 nu)∧w'.cell? ⟨w.heap.size,1,none⟩ = some (.int .i64 ki)∧w'.cell? ⟨w.heap.size,2,none⟩ = some (.int .i64 si)∧w'.cell? ⟨w.heap.size,3,none⟩ = some (.int .i64 ti)∧w'.cell? ⟨w.heap.size,4,none⟩ = some (.slice fa fn fc)) (first | exact ⟨x0,x1,x2,x3,x4⟩ | exact ⟨ka x0,ka x1,ka x2,ka x3,ka x4⟩ | exact ⟨bc1 B3 x0,bc1 B3 x1,bc1 B3 x2,bc1 B3 x3,bc1 B3 x4⟩ | exact ⟨bc1 B2 x0,bc1 B2 x1,bc1 B2 x2,bc1 B2 x3,bc1 B2 x4⟩ | exact ⟨bc1 B1 x0,bc1 B1 x1,bc1 B1 x2,bc1 B1 x3,bc1 B1 x4⟩ | exact ⟨ka (bc1 B1 x0),ka (bc1 B1 x1),ka (bc1 B1 x2),ka (bc1 B1 x3),ka (bc1 B1 x4)⟩ | exact ⟨bc1 (bal B1 _) x0,bc1 (bal B1 _) x1,bc1 (bal B1 _) x2,bc1 (bal B1 _) x3,bc1 (bal B1 _) x4⟩ | exact ⟨bc1 (bal (bdr B1) _) x0,bc1 (bal (bdr B1) _) x1,bc1 (bal (bdr B1) _) x2,bc1 (bal (bdr B1) _) x3,bc1 (bal (bdr B1) _) x4⟩ | simp [go_sem, *]) (first
                      | (refine app_step elFt (by rfl) _ _ (by rfl) W9.heap.size (.slice (some ⟨W9.heap.size,0,none⟩) 0 0) 0 [] (by rfl) (own_lit0 (t:=49) (by first | exact Blk.fresh (by simp) | exact (Blk.fresh (by simp)).drew | exact (Blk.fresh (by simp)).alloc _ | exact ((Blk.fresh (by simp)).alloc _).drew) (by omega)) _ k _ ((cellsOf encFtr l).take (k * 5)) (by rfl) (VP.out.below (by (repeat (with_reducible first | exact Below.refl _ _ | refine bdr ?_ | refine bdn ?_ _ | refine bal ?_ _)))) NP.out LP.out (oneC_take OX.out _) (by omega) (by (simp <;> omega)) ?_;intro v1 w1 hown1 hg1 hat1;have K1:=fun g cs (h : Blk _ g 49 cs) (hne : g ≠ W9.heap.size)=>Eq.trans (hg1.block g (Blk.lt h) (by simpa [Value.ownBlock] using hne)) h;have B1 : Below W9.heap.size W9 w1:=Below.grown (by (repeat (with_reducible first | exact Below.refl _ _ | refine bdr ?_ | refine bdn ?_ _ | refine bal ?_ _))) hg1 (by (simp <;> omega)) (by intro q hq;simp [Value.ownBlock] at hq;omega);have z1:=B1.size)
                      | (refine app_step elFt (by rfl) _ _ (by rfl) W9.heap.size (.slice (some ⟨(W9.heap.size + 1),0,none⟩) 0 0) 0 [] (by rfl) (own_lit0 (t:=49) (by first | exact Blk.fresh (by simp) | exact (Blk.fresh (by simp)).drew | exact (Blk.fresh (by simp)).alloc _ | exact ((Blk.fresh (by simp)).alloc _).drew) (by omega)) _ k _ ((cellsOf encFtr l).take (k * 5)) (by rfl) (VP.out.below (by (repeat (with_reducible first | exact Below.refl _ _ | refine bdr ?_ | refine bdn ?_ _ | refine bal ?_ _)))) NP.out LP.out (oneC_take OX.out _) (by omega) (by (simp <;> omega)) ?_;intro v1 w1 hown1 hg1 hat1;have K1:=fun g cs (h : Blk _ g 49 cs) (hne : g ≠ (W9.heap.size + 1))=>Eq.trans (hg1.block g (Blk.lt h) (by simpa [Value.ownBlock] using hne)) h;have B1 : Below W9.heap.size W9 w1:=Below.grown (by (repeat (with_reducible first | exact Below.refl _ _ | refine bdr ?_ | refine bdn ?_ _ | refine bal ?_ _))) hg1 (by (simp <;> omega)) (by intro q hq;simp [Value.ownBlock] at hq;omega);have z1:=B1.size)
                      | (refine app_step elFt (by rfl) _ _ (by rfl) W9.heap.size v1 (0 + k) _ (by rfl) (by first | exact hown1 | exact hown1.alloc _) _ 1 _ [.int .i64 nu,.int .i64 ki,.int .i64 si,.int .i64 ti,.slice fa fn fc] (by rfl) (by first | exact vw_blk (Blk.fresh (by simp)) | exact vw_blk (K1 (W9.heap.size + 1) (List.toArray [.int .i64 nu,.int .i64 ki,.int .i64 si,.int .i64 ti,.slice fa fn fc]) (by first | exact Blk.fresh (by simp) | exact (Blk.fresh (by simp)).drew | exact (Blk.fresh (by simp)).alloc _ | exact ((Blk.fresh (by simp)).alloc _).drew) (by omega)) | exact vw_blk (K1 W9.heap.size (List.toArray [.int .i64 nu,.int .i64 ki,.int .i64 si,.int .i64 ti,.slice fa fn fc]) (by first | exact Blk.fresh (by simp) | exact (Blk.fresh (by simp)).drew | exact (Blk.fresh (by simp)).alloc _ | exact ((Blk.fresh (by simp)).alloc _).drew) (by omega))) (by simp) (by rfl) (oneC_ft ⟨nu,ki,si,ti,⟨fa,fn,fc,fl⟩⟩) (by omega) (by first | exact z1 | (simp;omega)) ?_;intro v2 w2 hown2 hg2 hat2;have B2 : Below W9.heap.size W9 w2:=Below.grown (by (repeat (with_reducible first | exact B1 | exact Below.refl _ _ | refine bdr ?_ | refine bdn ?_ _ | refine bal ?_ _))) hg2 (by first | exact z1 | (simp;omega)) (by intro q hq;exact (hown1.lt q hq).1);have z2:=B2.size)
                      | (refine app_step elFt (by rfl) _ _ (by rfl) W9.heap.size v2 (0 + k + 1) _ (by rfl) hown2 _ 0 _ ((cellsOf encFtr l).drop (k * 5)) (by rfl) ((VS.out _).below B2) (fun _=>rfl) LS.out OS.out (by omega) z2 ?_;intro v3 w3 hown3 hg3 hat3;have B3 : Below W9.heap.size W9 w3:=Below.grown B2 hg3 z2 (by intro q hq;exact (hown2.lt q hq).1);obtain ⟨a3,cap3,rfl,q31,q32,q33⟩:=own_form hown3))
        all_goals
          go_wp2
          go_ret2
          (try simp only [Nat.zero_add,Nat.add_zero] at hown3)
          exact FIN.out _ _ _ (own_base hown3 (by have:=E9.out;omega)) (btr BW9.out B3)
      · go_wp2
        go_quiet (fail)
        go_wp2
        obtain ⟨q1,hq1⟩ : ∃ q1,q1 = nq:=⟨_,rfl⟩
        subst hq1
        go_quiet (fail)
        go_wp2
        obtain ⟨W9,hW9⟩ : ∃ W9,wr.drewN (q1 + nq) = W9:=⟨_,rfl⟩
        have BW9 : RowKit.Hid (Below wr.heap.size wr W9):=by show Below _ _ _;rw [← hW9];exact (by (repeat (with_reducible first | exact Below.refl _ _ | refine bdr ?_ | refine bdn ?_ _ | refine bal ?_ _)))
        have BR9 : RowKit.Hid (Blk W9 w.heap.size 49 #[.int .i64 nu,.int .i64 ki,.int .i64 si,.int .i64 ti,.slice fa fn fc]):=BR.out.below BW9.out
        have E9 : RowKit.Hid (W9.heap.size = wr.heap.size):=by show W9.heap.size = wr.heap.size;rw [← hW9];rfl
        have VP:=Lib.hid (VP.out.below BW9.out)
        have VS:=Lib.hid fun a=>(VS0.out a).below BW9.out
        rw [hW9]
        clear hW9 x0
        have x0 : W9.cell? ⟨w.heap.size,0,none⟩ = some (.int .i64 nu):=BR9.out.cell 0
        have x1 : W9.cell? ⟨w.heap.size,1,none⟩ = some (.int .i64 ki):=BR9.out.cell 1
        have x2 : W9.cell? ⟨w.heap.size,2,none⟩ = some (.int .i64 si):=BR9.out.cell 2
        have x3 : W9.cell? ⟨w.heap.size,3,none⟩ = some (.int .i64 ti):=BR9.out.cell 3
        have x4 : W9.cell? ⟨w.heap.size,4,none⟩ = some (.slice fa fn fc):=BR9.out.cell 4
        have y9 : w.heap.size < W9.heap.size:=BR9.out.lt
        go_region_held3 (fun w'=>w'.cell? ⟨w.heap.size,0,none⟩ = some (.int .i64 nu)∧w'.cell? ⟨w.heap.size,1,none⟩ = some (.int .i64 ki)∧w'.cell? ⟨w.heap.size,2,none⟩ = some (.int .i64 si)∧w'.cell? ⟨w.heap.size,3,none⟩ = some (.int .i64 ti)∧w'.cell? ⟨w.heap.size,4,none⟩ = some (.slice fa fn fc)) (first | exact ⟨x0,x1,x2,x3,x4⟩ | exact ⟨ka x0,ka x1,ka x2,ka x3,ka x4⟩ | exact ⟨bc1 B3 x0,bc1 B3 x1,bc1 B3 x2,bc1 B3 x3,bc1 B3 x4⟩ | exact ⟨bc1 B2 x0,bc1 B2 x1,bc1 B2 x2,bc1 B2 x3,bc1 B2 x4⟩ | exact ⟨bc1 B1 x0,bc1 B1 x1,bc1 B1 x2,bc1 B1 x3,bc1 B1 x4⟩ | exact ⟨ka (bc1 B1 x0),ka (bc1 B1 x1),ka (bc1 B1 x2),ka (bc1 B1 x3),ka (bc1 B1 x4)⟩ | exact ⟨bc1 (bal B1 _) x0,bc1 (bal B1 _) x1,bc1 (bal B1 _) x2,bc1 (bal B1 _) x3,bc1 (bal B1 _) x4⟩ | exact ⟨bc1 (bal (bdr B1) _) x0,bc1 (bal (bdr B1) _) x1,bc1 (bal (bdr B1) _) x2,bc1 (bal (bdr B1) _) x3,bc1 (bal (bdr B1) _) x4⟩ | simp [go_sem, *]) (first
                      | (refine app_step elFt (by rfl) _ _ (by rfl) W9.heap.size (.slice (some ⟨W9.heap.size,0,none⟩) 0 0) 0 [] (by rfl) (own_lit0 (t:=49) (by first | exact Blk.fresh (by simp) | exact (Blk.fresh (by simp)).drew | exact (Blk.fresh (by simp)).alloc _ | exact ((Blk.fresh (by simp)).alloc _).drew) (by omega)) _ k _ ((cellsOf encFtr l).take (k * 5)) (by rfl) (VP.out.below (by (repeat (with_reducible first | exact Below.refl _ _ | refine bdr ?_ | refine bdn ?_ _ | refine bal ?_ _)))) NP.out LP.out (oneC_take OX.out _) (by omega) (by (simp <;> omega)) ?_;intro v1 w1 hown1 hg1 hat1;have K1:=fun g cs (h : Blk _ g 49 cs) (hne : g ≠ W9.heap.size)=>Eq.trans (hg1.block g (Blk.lt h) (by simpa [Value.ownBlock] using hne)) h;have B1 : Below W9.heap.size W9 w1:=Below.grown (by (repeat (with_reducible first | exact Below.refl _ _ | refine bdr ?_ | refine bdn ?_ _ | refine bal ?_ _))) hg1 (by (simp <;> omega)) (by intro q hq;simp [Value.ownBlock] at hq;omega);have z1:=B1.size)
                      | (refine app_step elFt (by rfl) _ _ (by rfl) W9.heap.size (.slice (some ⟨(W9.heap.size + 1),0,none⟩) 0 0) 0 [] (by rfl) (own_lit0 (t:=49) (by first | exact Blk.fresh (by simp) | exact (Blk.fresh (by simp)).drew | exact (Blk.fresh (by simp)).alloc _ | exact ((Blk.fresh (by simp)).alloc _).drew) (by omega)) _ k _ ((cellsOf encFtr l).take (k * 5)) (by rfl) (VP.out.below (by (repeat (with_reducible first | exact Below.refl _ _ | refine bdr ?_ | refine bdn ?_ _ | refine bal ?_ _)))) NP.out LP.out (oneC_take OX.out _) (by omega) (by (simp <;> omega)) ?_;intro v1 w1 hown1 hg1 hat1;have K1:=fun g cs (h : Blk _ g 49 cs) (hne : g ≠ (W9.heap.size + 1))=>Eq.trans (hg1.block g (Blk.lt h) (by simpa [Value.ownBlock] using hne)) h;have B1 : Below W9.heap.size W9 w1:=Below.grown (by (repeat (with_reducible first | exact Below.refl _ _ | refine bdr ?_ | refine bdn ?_ _ | refine bal ?_ _))) hg1 (by (simp <;> omega)) (by intro q hq;simp [Value.ownBlock] at hq;omega);have z1:=B1.size)
                      | (refine app_step elFt (by rfl) _ _ (by rfl) W9.heap.size v1 (0 + k) _ (by rfl) (by first | exact hown1 | exact hown1.alloc _) _ 1 _ [.int .i64 nu,.int .i64 ki,.int .i64 si,.int .i64 ti,.slice fa fn fc] (by rfl) (by first | exact vw_blk (Blk.fresh (by simp)) | exact vw_blk (K1 (W9.heap.size + 1) (List.toArray [.int .i64 nu,.int .i64 ki,.int .i64 si,.int .i64 ti,.slice fa fn fc]) (by first | exact Blk.fresh (by simp) | exact (Blk.fresh (by simp)).drew | exact (Blk.fresh (by simp)).alloc _ | exact ((Blk.fresh (by simp)).alloc _).drew) (by omega)) | exact vw_blk (K1 W9.heap.size (List.toArray [.int .i64 nu,.int .i64 ki,.int .i64 si,.int .i64 ti,.slice fa fn fc]) (by first | exact Blk.fresh (by simp) | exact (Blk.fresh (by simp)).drew | exact (Blk.fresh (by simp)).alloc _ | exact ((Blk.fresh (by simp)).alloc _).drew) (by omega))) (by simp) (by rfl) (oneC_ft ⟨nu,ki,si,ti,⟨fa,fn,fc,fl⟩⟩) (by omega) (by first | exact z1 | (simp;omega)) ?_;intro v2 w2 hown2 hg2 hat2;have B2 : Below W9.heap.size W9 w2:=Below.grown (by (repeat (with_reducible first | exact B1 | exact Below.refl _ _ | refine bdr ?_ | refine bdn ?_ _ | refine bal ?_ _))) hg2 (by first | exact z1 | (simp;omega)) (by intro q hq;exact (hown1.lt q hq).1);have z2:=B2.size)
                      | (refine app_step elFt (by rfl) _ _ (by rfl) W9.heap.size v2 (0 + k + 1) _ (by rfl) hown2 _ 0 _ ((cellsOf encFtr l).drop (k * 5)) (by rfl) ((VS.out _).below B2) (fun _=>rfl) LS.out OS.out (by omega) z2 ?_;intro v3 w3 hown3 hg3 hat3;have B3 : Below W9.heap.size W9 w3:=Below.grown B2 hg3 z2 (by intro q hq;exact (hown2.lt q hq).1);obtain ⟨a3,cap3,rfl,q31,q32,q33⟩:=own_form hown3))
        all_goals
          go_wp2
          go_ret2
          (try simp only [Nat.zero_add,Nat.add_zero] at hown3)
          exact FIN.out _ _ _ (own_base hown3 (by have:=E9.out;omega)) (btr BW9.out B3)
end Go.Proofs.YtancajcelmhnkaaGreatDoor
