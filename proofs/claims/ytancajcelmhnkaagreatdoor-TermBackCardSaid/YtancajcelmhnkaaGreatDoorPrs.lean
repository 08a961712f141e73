/- term.Parse at the words of a valid term. -/
import Derived.Test.YtancajcelmhnkaaGreatDoorTrt
import Derived.Test.YtancajcelmhnkaaGreatDoorPevw
namespace Go.Proofs.YtancajcelmhnkaaGreatDoor
open Go.RowKit Go.Sort Go.Shelf
set_option linter.unusedVariables false
set_option linter.unusedSimpArgs false
theorem Blk.put4 {w : World} {g : Nat} {t : TypeId} {cs cs' : Array Value} {v0 v1 v2 v3 : Value} (h : Blk w g t cs) (e : (((cs.setIfInBounds 0 v0).setIfInBounds 1 v1).setIfInBounds 2 v2).setIfInBounds 3 v3 = cs') :
    Blk ((((w.setCell ⟨g,0,none⟩ v0).setCell ⟨g,1,none⟩ v1).setCell ⟨g,2,none⟩ v2).setCell ⟨g,3,none⟩ v3) g t cs':=e ▸ (((h.put 0 v0).put 1 v1).put 2 v2).put 3 v3
theorem cloneW_any (b off c : Nat) (l : List ByteArray) (w : World) (hc : ∀ i s,l[i]? = some s→w.cell? ⟨b,off + i,none⟩ = some (.string s)) (hm : l.length≤1000000) :
    Calls Tryz.prog 71 #[.slice (some ⟨b,off,none⟩) l.length c] w fun e w'=>∃ v,e = .returned v∧w'.ownsRow w.heap.size 9 1 v l.length (strCells l)∧Below w.heap.size w w':=by
  obtain ⟨i0,hi,hz0,hz1,hz2⟩:=info_parts infoStr
  refine (Tryz.slices_Clone i0 _ 1 16 hi hz0 hz1 hz2 rfl (by decide) (fun w=>by kernel_rfl) b off l.length c (strCells l) w (by simp) (by unfold maxLen;omega) (by omega) (fun j u hj=>?_) (oneC_str l)).mono ?_
  · rw [List.getElem?_map] at hj
    cases hl : l[j]? with
    | none=>rw [hl] at hj;cases hj
    | some s=>rw [hl] at hj;cases hj;exact hc j s hl
  · rintro e w' ⟨v,rfl,ho,-,hb⟩
    exact ⟨v,rfl,ho,hb⟩
def PrsP (w : World) (t : Tm) (rest : List ByteArray) (e : Ending) (w' : World) : Prop :=
  ∃ (tm : TmM) (v : Value),e = .returned (.tuple #[.agg (encTm tm).toArray,v,.int .i64 0])∧tm.pl = t∧TmOk w' tm∧TmFr w.heap.size tm∧w'.ownsRow w.heap.size 9 1 v rest.length (strCells rest)∧Below w.heap.size w w'
set_option maxRecDepth 100000 in
set_option maxHeartbeats 8000000 in
theorem parse_any (t : Tm) (hk : chkT t = 0) (rest : List ByteArray) (nb off c : Nat) (w : World) (hc : ∀ i s,(t.words ++ rest)[i]? = some s→w.cell? ⟨nb,off + i,none⟩ = some (.string s)) (hl : (t.words ++ rest).length≤c) (hm : c≤1000000) :
    Calls Tryz.prog 35 #[.slice (some ⟨nb,off,none⟩) (t.words ++ rest).length c] w (PrsP w t rest):=by
  have hz:=chkT_zero hk
  have hnb : nb < w.heap.size:=by
    obtain ⟨l,e⟩:=Tm.words_cons t
    exact World.block_lt_of_cell? w _ (hc 0 (opWord t.op) (by rw [e];rfl))
  obtain ⟨L,hL⟩ : ∃ L,(t.words ++ rest).length = L:=⟨_,rfl⟩
  obtain ⟨W,hW⟩ : ∃ W,(w.alloc (.cells #[.int .i64 0,.int .i64 0,.int .i64 0,.slice none 0 0] 24)).alloc (.cells #[.slice (some ⟨nb,off,none⟩) L c,.bool false] 124) = W:=⟨_,rfl⟩
  have B0 : RowKit.Hid (Blk W w.heap.size 24 #[.int .i64 0,.int .i64 0,.int .i64 0,.slice none 0 0]):=by show Blk _ _ _ _;rw [← hW];exact (Blk.new w _ _).alloc _
  have BB : RowKit.Hid (Below w.heap.size w W):=by show Below _ _ _;rw [← hW];exact (by (repeat (with_reducible first | exact Below.refl _ _ | refine bdr ?_ | refine bdn ?_ _ | refine bal ?_ _)))
  have BR : TRd W (w.heap.size + 1) nb (t.words ++ rest):=by
    refine ⟨⟨off,c,?_,fun i s h=>bc1 BB.out (hc i s h),hl,by omega⟩,by omega⟩
    rw [hL,← hW];exact Blk.fresh (by simp)
  have hrl : rest.length≤1000000:=by rw [List.length_append] at hl;omega
  have HT:=Lib.hid (reads_any t hz.2 (by omega) W (w.heap.size + 1) nb rest BR)
  have HK:=Lib.hid hk
  have yW : w.heap.size + 1 < W.heap.size:=BR.lt
  rw [hL]
  clear hc hl hk hL BR hz
  go_enter Tryz.func35,Tryz.ntmps35
  go_wp2_with (first
    | (go_at_call 70;refine HT.out.mono ?_;rintro e w2 ⟨⟨op,num,more,a,n,c2,kids⟩,rfl,hpl,hok,hfr,hr,hk2⟩;obtain ⟨off',c',hb',hc',hl',hm'⟩:=hr.ex;have x1 : w2.cell? ⟨w.heap.size + 1,1,none⟩ = some (.bool false):=hb'.cell 1;have HPL:=Lib.hid hpl;have OK2:=Lib.hid hok;have FR2:=Lib.hid hfr;have R2:=Lib.hid hb';have RC2:=Lib.hid hc';have B2:=Lib.hid (hk2.blk B0.out (by show ¬ _ = _;omega));have K2:=Lib.hid hk2;have y2:=hk2.size;have yx : w.heap.size + 1 < w2.heap.size:=(by omega);dsimp only [encTm];clear hpl hok hfr hr hk2 hb' hc')
    | (refine st_new rfl 24 (.tmp 6) (.tmp 12) rfl #[.int .i64 op,.int .i64 num,.int .i64 more,.slice a n c2] _ _ rfl rfl tmInfo rfl (tm_one _ _ _ _ _ _) ?_)
    | (refine wpList_load_row rfl 24 (.tmp 6) rfl w2.heap.size rfl _ #[.int .i64 op,.int .i64 num,.int .i64 more,.slice a n c2] _ _ (Blk.new _ _ _) Tryz.underlying24 rfl tmInfo ?_)
    | (go_at_call 40;refine (check_any (.mk op num more a n c2 kids) _ (OK2.out.beh (by (repeat (with_reducible first | exact Below.refl _ _ | refine bdr ?_ | refine bdn ?_ _ | refine bal ?_ _))))).mono ?_;rw [HPL.out,HK.out];rintro e w4 ⟨rfl,hb4⟩;have BN4:=Lib.hid ((Blk.new w2 24 #[.int .i64 op,.int .i64 num,.int .i64 more,.slice a n c2]).below hb4);have BA4 : Below w2.heap.size w2 w4:=btr (by (repeat (with_reducible first | exact Below.refl _ _ | refine bdr ?_ | refine bdn ?_ _ | refine bal ?_ _))) hb4;have HB4:=Lib.hid BA4;clear hb4 BA4))
  have q0 : w4.cell? ⟨w2.heap.size,0,none⟩ = some (.int .i64 op):=BN4.out.cell 0
  have q1 : w4.cell? ⟨w2.heap.size,1,none⟩ = some (.int .i64 num):=BN4.out.cell 1
  have q2 : w4.cell? ⟨w2.heap.size,2,none⟩ = some (.int .i64 more):=BN4.out.cell 2
  have q3 : w4.cell? ⟨w2.heap.size,3,none⟩ = some (.slice a n c2):=BN4.out.cell 3
  have x0 : w4.cell? ⟨w.heap.size + 1,0,none⟩ = some (.slice (some ⟨nb,off',none⟩) rest.length c'):=(R2.out.below HB4.out).cell 0
  have HC:=Lib.hid fun W' (hW' : Below w4.heap.size w4 W')=>cloneW_any nb off' c' rest W' (fun i s h=>bc1 (btr HB4.out hW') (RC2.out i s h)) hrl
  have B4:=Lib.hid (B2.out.below HB4.out)
  have y4:=HB4.out.size
  clear x1
  obtain ⟨m,hmm⟩ : ∃ m,rest.length = m:=⟨_,rfl⟩
  rw [hmm] at x0 HC
  have HM:=Lib.hid hmm
  clear hmm hrl hl'
  go_region_held3 (fun w'=>w'.cell? ⟨w2.heap.size,0,none⟩ = some (.int .i64 op)∧w'.cell? ⟨w2.heap.size,1,none⟩ = some (.int .i64 num)∧w'.cell? ⟨w2.heap.size,2,none⟩ = some (.int .i64 more)∧w'.cell? ⟨w2.heap.size,3,none⟩ = some (.slice a n c2)∧w'.cell? ⟨w.heap.size + 1,0,none⟩ = some (.slice (some ⟨nb,off',none⟩) m c')) (first | exact ⟨q0,q1,q2,q3,x0⟩ | exact ⟨bc1 k1 q0,bc1 k1 q1,bc1 k1 q2,bc1 k1 q3,bc1 k1 x0⟩ | simp [go_sem, *])
    (first | (go_at_call 71;refine (HC.out _ (by (repeat (with_reducible first | assumption | exact Below.refl _ _ | refine bdr ?_ | refine bdn ?_ _ | refine bal ?_ _)))).mono ?_;rintro e v1 ⟨v,rfl,ho,hb1⟩;have k1 : Below w4.heap.size w4 v1:=btr (by (repeat (with_reducible first | assumption | exact Below.refl _ _ | refine bdr ?_ | refine bdn ?_ _ | refine bal ?_ _))) hb1;have HO:=Lib.hid (own_base ho (show w.heap.size + 1≤_ by (try simp);omega));have BR1:=Lib.hid (B4.out.below k1);have z0 : v1.cell? ⟨w.heap.size,0,none⟩ = some (.int .i64 0):=BR1.out.cell 0;have z1 : v1.cell? ⟨w.heap.size,1,none⟩ = some (.int .i64 0):=BR1.out.cell 1;have z2 : v1.cell? ⟨w.heap.size,2,none⟩ = some (.int .i64 0):=BR1.out.cell 2;have z3 : v1.cell? ⟨w.heap.size,3,none⟩ = some (.slice none 0 0):=BR1.out.cell 3;have f0:=BR1.out.free 0;have f1:=BR1.out.free 1;have f2:=BR1.out.free 2;have f3:=BR1.out.free 3;have zl:=BR1.out.lt;clear ho hb1))
  all_goals
    go_wp2
    have B9:=Blk.put4 (v0:=.int .i64 op) (v1:=.int .i64 num) (v2:=.int .i64 more) (v3:=.slice a n c2) BR1.out rfl
    have KX : Kept (fun k=>k = w.heap.size) v1 ((((v1.setCell ⟨w.heap.size,0,none⟩ (.int .i64 op)).setCell ⟨w.heap.size,1,none⟩ (.int .i64 num)).setCell ⟨w.heap.size,2,none⟩ (.int .i64 more)).setCell ⟨w.heap.size,3,none⟩ (.slice a n c2)):=((((Kept.refl (fun k=>k = w.heap.size) v1).set rfl).set rfl).set rfl).set rfl
    refine bodyPost_ret (v:=.tuple #[.agg #[.int .i64 op,.int .i64 num,.int .i64 more,.slice a n c2],v,.int .i64 0]) (by simp [results,Tryz.results35,go_sem,Blk.cell B9]) rfl ?_
    refine ⟨.mk op num more a n c2 kids,v,rfl,HPL.out,tmOk_kept (OK2.out.beh (btr HB4.out k1)) FR2.out KX (by omega),FR2.out.le BB.out.size,?_,?_⟩
    · have ho:=HO.out
      rw [← HM.out] at ho
      exact own_base (Kept.own KX ho fun g hg=>by have:=own_ge ho g hg;show ¬ g = w.heap.size;omega) (Nat.le_succ _)
    · have h0 : Below w.heap.size W w2:=K2.out.toBelow (by omega) fun i hi=>by show ¬ i = w.heap.size + 1;omega
      have h1 : Below w.heap.size w v1:=btr (btr (BB.out.trans h0) HB4.out) k1
      have h2 : Below w.heap.size v1 _:=KX.toBelow (by have:=h1.size;omega) fun i hi=>by show ¬ i = w.heap.size;omega
      exact h1.trans h2
end Go.Proofs.YtancajcelmhnkaaGreatDoor
