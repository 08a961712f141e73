/- The reference's layers: a feature put into its place. (Printed by gen4/ins.py.) -/
import Derived.Test.YtancajcelmhnkaaGreatDoorHj
set_option maxRecDepth 100000
set_option maxHeartbeats 40000000
namespace Go.Proofs.YtancajcelmhnkaaGreatDoor
open Go.RowKit Go.Sort Go.Shelf
set_option linter.unusedVariables false
set_option linter.unusedSimpArgs false
theorem cellsOf_drop {α:Type} {enc:α→List Value} {k:Nat} (hk:∀ x,(enc x).length=k) (l:List α) (m:Nat):(cellsOf enc l).drop (m * k)=cellsOf enc (l.drop m):=by
 induction l generalizing m with
 | nil=>simp [cellsOf]
 | cons x l ih =>
  cases m with
  | zero=>simp
  | succ m =>
   have e:cellsOf enc (x :: l)=enc x++cellsOf enc l:=by simp [cellsOf]
   rw [e,List.drop_succ_cons,List.drop_append,hk,List.drop_of_length_le (by rw [hk,Nat.add_mul];omega),List.nil_append,show (m+1) * k - k=m * k by rw [Nat.add_mul];omega,ih]
def FAddP (w:World) (l:List FtrM) (f:FtrM) (e:Ending) (w':World):Prop :=
 (e=.returned (.tuple #[.slice none 0 0,.int .i64 6])∧Below w.heap.size w w') ∨
 ∃ (l1 l2:List FtrM) (a:Option Addr) (n c:Nat),l=l1++l2∧(∀ g ∈ l1,g.number<f.number)∧(∀ g,l2.head? = some g→f.number<g.number)∧e=.returned (.tuple #[.slice a n c,.int .i64 0])∧w'.ownsRow w.heap.size 49 5 (.slice a n c) n (cellsOf encFtr (l1++[f]++l2))∧n=(l1++[f]++l2).length∧Below w.heap.size w w'
theorem fadd_any (s:Sc FtrM) (f:FtrM) (w:World) (hR:Rws encFtr w s 58) (hc:s.n≤s.c∧s.c≤maxLen∧(s.a=none→s.c=0)) (hr:∀ r ∈ s.l,ScOk2 w r.s) (hg:LayOk (s.l.map FtrM.pl)) (hf:ScOk2 w f.s) (ho:f.pl.Ok) :
    Calls Tryz.prog 49 #[.slice s.a s.n s.c,.agg #[.int .i64 f.number,.int .i64 f.kind,.int .i64 f.since,.int .i64 f.till,.slice f.s.a f.s.n f.s.c]] w (FAddP w s.l f):=by
  obtain ⟨a,n,c,l⟩:=s
  obtain ⟨nu,ki,si,ti,⟨fa,fn,fc,fl⟩⟩:=f
  dsimp only at hr hg hc hf ⊢
  obtain ⟨W,hW⟩:∃ W,w.alloc (.cells #[.int .i64 nu,.int .i64 ki,.int .i64 si,.int .i64 ti,.slice fa fn fc] 49)=W:=⟨_,rfl⟩
  have B0:RowKit.Hid (Blk W w.heap.size 49 #[.int .i64 nu,.int .i64 ki,.int .i64 si,.int .i64 ti,.slice fa fn fc]):=by show Blk _ _ _ _;rw [← hW];exact Blk.new w _ _
  have BB:RowKit.Hid (Below w.heap.size w W):=by show Below _ _ _;rw [← hW];exact Bw.out
  have HG:RowKit.Hid (LGood (l.map FtrM.pl)):=⟨hg.len,fun g hgm=>by obtain ⟨g1,g2,g3,g4,g5⟩:=hg.mem hgm;exact ⟨g1,g3,g4,g5⟩,hg.pair⟩
  have KO:RowKit.Hid (∀ g ∈ l.map FtrM.pl,kindOk g.kind=true):=fun g hgm=>decide_eq_true (hg.mem hgm).kind
  have HCK:=hid fun W' (hW':Below w.heap.size w W')=>fcheck_any ⟨a,n,c,l⟩ W' ⟨hR.vw.below hW',hR.len,Nat.le_trans hR.few (by omega),hR.nil⟩ (fun r hr'=>(hr r hr').below hW') HG.out
  have HON:=hid fun W' (hW':Below w.heap.size w W')=>fone_any ⟨nu,ki,si,ti,⟨fa,fn,fc,fl⟩⟩ W' (hf.below hW') ⟨ho.number,ho.days,ho.some,ho.valid⟩
  have hk:kindOk ki=true:=decide_eq_true ho.kind
  dsimp only at HON
  rw [hk] at HON
  have HON':RowKit.Hid (∀ W',Below w.heap.size w W'→Calls Tryz.prog 88 #[.agg #[.int .i64 nu,.int .i64 ki,.int .i64 si,.int .i64 ti,.slice fa fn fc]] W' fun e w'=>e=.returned (.int .i64 0)∧Below W'.heap.size W' w'):=HON.out
  have HV:=hid hR.vw;have hn:l.length=n:=hR.len;have HN:=hid hn
  have hm:n≤58:=hR.few
  have HNIL:=hid hR.nil
  obtain ⟨hc1,hc2,hc3⟩:=hc
  have HC3:=hid hc3
  unfold maxLen at hc2
  have hne60:((n:Int) == 60)=false:=by simp;omega
  clear hR hr hg hf ho hn HON hk hc3
  go_enter Tryz.func49,Tryz.ntmps49
  go_wp2_with (first
    | (go_at_call 58;refine (HCK.out _ BB.out).mono ?_;rintro e w1 ⟨x,rfl,hx,hb1⟩;obtain rfl:x=0:=hx.1 KO.out;clear hx;have B1:=hid (B0.out.below hb1);have HB1:=hid (btr BB.out hb1);clear hb1)
    | (refine wpList_load_row rfl 49 (.tmp 3) rfl w.heap.size rfl _ #[.int .i64 nu,.int .i64 ki,.int .i64 si,.int .i64 ti,.slice fa fn fc] _ _ B1.out Tryz.underlying49 rfl ftInfo ?_)
    | (go_at_call 88;refine (HON'.out _ HB1.out).mono ?_;rintro e w2 ⟨rfl,hb2⟩;have B2:=hid (B1.out.below hb2);have HB2:=hid (btr HB1.out hb2);clear hb2))
  go_loopw [8] (fun i wr=>∃ k:Nat,k≤n∧i=.int .i64 k∧(∀ j (h:j<l.length),j<k→l[j].number<nu)∧Below w2.heap.size w2 wr) (fun i _=>n - (intOf i).toNat)
  case atStart=>exact ⟨0,Nat.zero_le _,rfl,(fun j _ h=>absurd h (Nat.not_lt_zero j)),Below.refl _ _⟩
  case round =>
    obtain ⟨k,hk,rfl,hno,hb⟩:=hrel
    have NO:=hid hno;have HB:=hid (btr HB2.out hb)
    have BR:=hid (B2.out.below hb)
    have HVR:=hid (HV.out.below (btr HB2.out hb))
    have HBR:=hid hb
    have x0:wr.cell? ⟨w.heap.size,0,none⟩=some (.int .i64 nu):=BR.out.cell 0
    clear hno hb
    by_cases hlt:k<n
    · have hlt':(k:Int)<(n:Int):=by omega
      have hke:k<l.length:=by rw [HN.out];exact hlt
      obtain ⟨b,off,rfl,hbl,hrg⟩:=HVR.out.range (k:=5) (fun x _=>encFtr_len x) (by omega) k hke
      have c0:wr.cell? ⟨b,off+k * 5,none⟩=some (.int .i64 l[k].number):=hrg 0 _ rfl
      clear hrg
      obtain ⟨gn,hgn⟩:∃ gn,l[k].number=gn:=⟨_,rfl⟩
      rw [hgn] at c0
      have HGN:=hid hgn
      clear hgn
      have i0:(0:Int)≤(k:Int):=by omega
      by_cases h1:gn<nu
      · have h1':decide (gn<nu)=true:=decide_eq_true h1
        go_wp2
        go_quiet (fail)
        go_wp2
        go_roundw
        case rel =>
          refine ⟨k+1,by omega,by go_num,fun j hj hjk=>?_,(by (repeat (with_reducible first | exact HBR.out | exact Below.refl _ _ | refine bdr ?_ | refine bdn ?_ _ | refine bal ?_ _)))⟩
          by_cases e:j=k
          · subst e;rw [HGN.out];exact h1
          · exact NO.out j hj (by omega)
        case measure=>simp [intOf];omega
      · have h1':decide (gn<nu)=false:=decide_eq_false h1
        by_cases h2:gn=nu
        · subst h2
          go_wp2
          go_quiet (fail)
          go_wp2
          go_quiet (fail)
          go_wp2
          go_ret2
          exact .inl ⟨rfl,(by (repeat (with_reducible first | exact HB.out | exact Below.refl _ _ | refine bdr ?_ | refine bdn ?_ _ | refine bal ?_ _)))⟩
        · have h2':((gn:Int) == nu)=false:=by simpa using h2
          have H2:=hid h2
          clear h2
          have FIN:RowKit.Hid (∀ (W':World) (a3:Option Addr) (c3:Nat),W'.ownsRow wr.heap.size 49 5 (.slice a3 (k+1+(n - k)) c3) (k+1+(n - k)) ((cellsOf encFtr l).take (k * 5)++[.int .i64 nu,.int .i64 ki,.int .i64 si,.int .i64 ti,.slice fa fn fc]++(cellsOf encFtr l).drop (k * 5))→Below wr.heap.size wr W'→FAddP w l ⟨nu,ki,si,ti,⟨fa,fn,fc,fl⟩⟩ (.returned (.tuple #[.slice a3 (k+1+(n - k)) c3,.int .i64 0])) W'):=fun W' a3 c3 h3 hb3=>by
            have hln:=HN.out
            refine .inr ⟨l.take k,l.drop k,a3,_,c3,(List.take_append_drop k l).symm,fun g hg=>?_,fun g hg=>?_,rfl,?_,by simp;omega,btr HB.out hb3⟩
            · obtain ⟨j,hj,rfl⟩:=List.getElem_of_mem hg
              rw [List.length_take] at hj
              rw [List.getElem_take]
              exact NO.out j (by omega) (by omega)
            · rw [List.head?_drop,List.getElem?_eq_getElem hke] at hg
              cases hg
              have:=HGN.out;have:=H2.out
              show nu<l[k].number
              omega
            · have e:cellsOf encFtr (l.take k++[⟨nu,ki,si,ti,⟨fa,fn,fc,fl⟩⟩]++l.drop k)=(cellsOf encFtr l).take (k * 5)++[.int .i64 nu,.int .i64 ki,.int .i64 si,.int .i64 ti,.slice fa fn fc]++(cellsOf encFtr l).drop (k * 5):=by
                rw [cellsOf_append,cellsOf_append,← cellsOf_take encFtr_len,cellsOf_drop encFtr_len];rfl
              rw [e]
              exact own_base h3 HB.out.size
          have VP:=hid (HVR.out.take (k * 5))
          have NP:RowKit.Hid (some (⟨b,off,none⟩:Addr)=none→k=0):=fun h=>by cases h
          have LP:RowKit.Hid (((cellsOf encFtr l).take (k * 5)).length=k * 5):=by have:=HN.out;show ((cellsOf encFtr l).take (k * 5)).length=_;rw [List.length_take,cellsOf_length encFtr_len];omega
          have LS:RowKit.Hid (((cellsOf encFtr l).drop (k * 5)).length=(n - k) * 5):=by have:=HN.out;show ((cellsOf encFtr l).drop (k * 5)).length=_;rw [List.length_drop,cellsOf_length encFtr_len];omega
          have OX:RowKit.Hid (OneC (cellsOf encFtr l)):=oneC_cells oneC_ft l
          have OS:RowKit.Hid (OneC ((cellsOf encFtr l).drop (k * 5))):=fun u hu=>OX.out u (List.mem_of_mem_drop hu)
          have VS:=hid (HVR.out.drop (k * 5))
          have NS:RowKit.Hid (some (⟨b,off+k * 5,none⟩:Addr)=none→n - k=0):=fun h=>by cases h
          have hck:¬ c=k:=by omega
          have i2:(k:Int)≤(c:Int):=by omega
          have i3:(k:Int)≤(n:Int):=by omega
          have hwr:w.heap.size<wr.heap.size:=BR.out.lt
          go_wp2
          go_quiet (fail)
          go_wp2
          obtain ⟨q1,hq1⟩:∃ q1,q1=nq:=⟨_,rfl⟩
          subst hq1
          go_quiet (fail)
          go_wp2
          obtain ⟨W9,hW9⟩:∃ W9,wr.drewN (q1+nq)=W9:=⟨_,rfl⟩
          have BW9:RowKit.Hid (Below wr.heap.size wr W9):=by show Below _ _ _;rw [← hW9];exact Bw.out
          have BR9:RowKit.Hid (Blk W9 w.heap.size 49 #[.int .i64 nu,.int .i64 ki,.int .i64 si,.int .i64 ti,.slice fa fn fc]):=BR.out.below BW9.out
          have E9:RowKit.Hid (W9.heap.size=wr.heap.size):=by show W9.heap.size=wr.heap.size;rw [← hW9];rfl
          have VP:=hid (VP.out.below BW9.out)
          have VS:=hid (VS.out.below BW9.out)
          rw [hW9]
          clear hW9 x0
          have x0:W9.cell? ⟨w.heap.size,0,none⟩=some (.int .i64 nu):=BR9.out.cell 0
          have x1:W9.cell? ⟨w.heap.size,1,none⟩=some (.int .i64 ki):=BR9.out.cell 1
          have x2:W9.cell? ⟨w.heap.size,2,none⟩=some (.int .i64 si):=BR9.out.cell 2
          have x3:W9.cell? ⟨w.heap.size,3,none⟩=some (.int .i64 ti):=BR9.out.cell 3
          have x4:W9.cell? ⟨w.heap.size,4,none⟩=some (.slice fa fn fc):=BR9.out.cell 4
          have y9:w.heap.size<W9.heap.size:=BR9.out.lt
          go_region_held3 (fun w'=>w'.cell? ⟨w.heap.size,0,none⟩=some (.int .i64 nu)∧w'.cell? ⟨w.heap.size,1,none⟩=some (.int .i64 ki)∧w'.cell? ⟨w.heap.size,2,none⟩=some (.int .i64 si)∧w'.cell? ⟨w.heap.size,3,none⟩=some (.int .i64 ti)∧w'.cell? ⟨w.heap.size,4,none⟩=some (.slice fa fn fc)) (first | exact ⟨x0,x1,x2,x3,x4⟩ | exact ⟨ka x0,ka x1,ka x2,ka x3,ka x4⟩ | exact ⟨bc1 B3 x0,bc1 B3 x1,bc1 B3 x2,bc1 B3 x3,bc1 B3 x4⟩ | exact ⟨bc1 B2 x0,bc1 B2 x1,bc1 B2 x2,bc1 B2 x3,bc1 B2 x4⟩ | exact ⟨bc1 B1 x0,bc1 B1 x1,bc1 B1 x2,bc1 B1 x3,bc1 B1 x4⟩ | exact ⟨ka (bc1 B1 x0),ka (bc1 B1 x1),ka (bc1 B1 x2),ka (bc1 B1 x3),ka (bc1 B1 x4)⟩ | exact ⟨bc1 (bal B1 _) x0,bc1 (bal B1 _) x1,bc1 (bal B1 _) x2,bc1 (bal B1 _) x3,bc1 (bal B1 _) x4⟩ | exact ⟨bc1 (bal (bdr B1) _) x0,bc1 (bal (bdr B1) _) x1,bc1 (bal (bdr B1) _) x2,bc1 (bal (bdr B1) _) x3,bc1 (bal (bdr B1) _) x4⟩ | simp [go_sem, *]) (first
                        | (refine app_step elFt (by rfl) _ _ (by rfl) W9.heap.size (.slice (some ⟨W9.heap.size,0,none⟩) 0 0) 0 [] (by rfl) (own_lit0 (t:=49) (by first | exact Blk.fresh (by simp) | exact (Blk.fresh (by simp)).drew | exact (Blk.fresh (by simp)).alloc _ | exact ((Blk.fresh (by simp)).alloc _).drew) (by omega)) _ k _ ((cellsOf encFtr l).take (k * 5)) (by rfl) (VP.out.below (by (repeat (with_reducible first | exact Below.refl _ _ | refine bdr ?_ | refine bdn ?_ _ | refine bal ?_ _)))) NP.out LP.out (oneC_take OX.out _) (by omega) (by (simp <;> omega)) ?_;intro v1 w1 hown1 hg1 hat1;have K1:=fun g cs (h:Blk _ g 49 cs) (hne:g ≠ W9.heap.size)=>Eq.trans (hg1.block g (Blk.lt h) (by simpa [Value.ownBlock] using hne)) h;have B1:Below W9.heap.size W9 w1:=Below.grown (by (repeat (with_reducible first | exact Below.refl _ _ | refine bdr ?_ | refine bdn ?_ _ | refine bal ?_ _))) hg1 (by (simp <;> omega)) (by intro q hq;simp [Value.ownBlock] at hq;omega);have z1:=B1.size)
                        | (refine app_step elFt (by rfl) _ _ (by rfl) W9.heap.size (.slice (some ⟨(W9.heap.size+1),0,none⟩) 0 0) 0 [] (by rfl) (own_lit0 (t:=49) (by first | exact Blk.fresh (by simp) | exact (Blk.fresh (by simp)).drew | exact (Blk.fresh (by simp)).alloc _ | exact ((Blk.fresh (by simp)).alloc _).drew) (by omega)) _ k _ ((cellsOf encFtr l).take (k * 5)) (by rfl) (VP.out.below (by (repeat (with_reducible first | exact Below.refl _ _ | refine bdr ?_ | refine bdn ?_ _ | refine bal ?_ _)))) NP.out LP.out (oneC_take OX.out _) (by omega) (by (simp <;> omega)) ?_;intro v1 w1 hown1 hg1 hat1;have K1:=fun g cs (h:Blk _ g 49 cs) (hne:g ≠ (W9.heap.size+1))=>Eq.trans (hg1.block g (Blk.lt h) (by simpa [Value.ownBlock] using hne)) h;have B1:Below W9.heap.size W9 w1:=Below.grown (by (repeat (with_reducible first | exact Below.refl _ _ | refine bdr ?_ | refine bdn ?_ _ | refine bal ?_ _))) hg1 (by (simp <;> omega)) (by intro q hq;simp [Value.ownBlock] at hq;omega);have z1:=B1.size)
                        | (refine app_step elFt (by rfl) _ _ (by rfl) W9.heap.size v1 (0+k) _ (by rfl) (by first | exact hown1 | exact hown1.alloc _) _ 1 _ [.int .i64 nu,.int .i64 ki,.int .i64 si,.int .i64 ti,.slice fa fn fc] (by rfl) (by first | exact vw_blk (Blk.fresh (by simp)) | exact vw_blk (K1 (W9.heap.size+1) (List.toArray [.int .i64 nu,.int .i64 ki,.int .i64 si,.int .i64 ti,.slice fa fn fc]) (by first | exact Blk.fresh (by simp) | exact (Blk.fresh (by simp)).drew | exact (Blk.fresh (by simp)).alloc _ | exact ((Blk.fresh (by simp)).alloc _).drew) (by omega)) | exact vw_blk (K1 W9.heap.size (List.toArray [.int .i64 nu,.int .i64 ki,.int .i64 si,.int .i64 ti,.slice fa fn fc]) (by first | exact Blk.fresh (by simp) | exact (Blk.fresh (by simp)).drew | exact (Blk.fresh (by simp)).alloc _ | exact ((Blk.fresh (by simp)).alloc _).drew) (by omega))) (by simp) (by rfl) (oneC_ft ⟨nu,ki,si,ti,⟨fa,fn,fc,fl⟩⟩) (by omega) (by first | exact z1 | (simp;omega)) ?_;intro v2 w2 hown2 hg2 hat2;have B2:Below W9.heap.size W9 w2:=Below.grown (by (repeat (with_reducible first | exact B1 | exact Below.refl _ _ | refine bdr ?_ | refine bdn ?_ _ | refine bal ?_ _))) hg2 (by first | exact z1 | (simp;omega)) (by intro q hq;exact (hown1.lt q hq).1);have z2:=B2.size)
                        | (refine app_step elFt (by rfl) _ _ (by rfl) W9.heap.size v2 (0+k+1) _ (by rfl) hown2 _ (n - k) _ ((cellsOf encFtr l).drop (k * 5)) (by rfl) (VS.out.below B2) NS.out LS.out OS.out (by omega) z2 ?_;intro v3 w3 hown3 hg3 hat3;have B3:Below W9.heap.size W9 w3:=Below.grown B2 hg3 z2 (by intro q hq;exact (hown2.lt q hq).1);obtain ⟨a3,cap3,rfl,q31,q32,q33⟩:=own_form hown3))
          all_goals
            go_wp2
            go_ret2
            (try simp only [Nat.zero_add,Nat.add_zero] at hown3)
            exact FIN.out _ _ _ (own_base hown3 (by have:=E9.out;omega)) (btr BW9.out B3)
    · obtain rfl:k=n:=by omega
      have hck0:k≤c:=by omega
      have FIN:RowKit.Hid (∀ (W':World) (a3:Option Addr) (c3:Nat),W'.ownsRow wr.heap.size 49 5 (.slice a3 (k+1+0) c3) (k+1+0) ((cellsOf encFtr l).take (k * 5)++[.int .i64 nu,.int .i64 ki,.int .i64 si,.int .i64 ti,.slice fa fn fc]++(cellsOf encFtr l).drop (k * 5))→Below wr.heap.size wr W'→FAddP w l ⟨nu,ki,si,ti,⟨fa,fn,fc,fl⟩⟩ (.returned (.tuple #[.slice a3 (k+1+0) c3,.int .i64 0])) W'):=fun W' a3 c3 h3 hb3=>by
        have hln:=HN.out
        have hd:l.drop k=[]:=List.drop_eq_nil_of_le (by omega)
        have ht:l.take k=l:=List.take_of_length_le (by omega)
        refine .inr ⟨l,[],a3,_,c3,(by simp),fun g hg=>?_,(fun g hg=>by cases hg),rfl,?_,by simp;omega,btr HB.out hb3⟩
        · obtain ⟨j,hj,rfl⟩:=List.getElem_of_mem hg
          exact NO.out j hj (by omega)
        · have e:cellsOf encFtr (l++[⟨nu,ki,si,ti,⟨fa,fn,fc,fl⟩⟩]++[])=(cellsOf encFtr l).take (k * 5)++[.int .i64 nu,.int .i64 ki,.int .i64 si,.int .i64 ti,.slice fa fn fc]++(cellsOf encFtr l).drop (k * 5):=by
            rw [cellsOf_take encFtr_len,cellsOf_drop encFtr_len,hd,ht,List.append_nil,cellsOf_append];simp [cellsOf,encFtr]
          rw [e]
          exact own_base h3 HB.out.size
      have VP:=hid (HVR.out.take (k * 5))
      have NP:RowKit.Hid (a=none→k=0):=HNIL.out
      have LP:RowKit.Hid (((cellsOf encFtr l).take (k * 5)).length=k * 5):=by have:=HN.out;show ((cellsOf encFtr l).take (k * 5)).length=_;rw [List.length_take,cellsOf_length encFtr_len];omega
      have LS:RowKit.Hid (((cellsOf encFtr l).drop (k * 5)).length=0 * 5):=by have:=HN.out;show ((cellsOf encFtr l).drop (k * 5)).length=_;rw [List.length_drop,cellsOf_length encFtr_len];omega
      have OX:RowKit.Hid (OneC (cellsOf encFtr l)):=oneC_cells oneC_ft l
      have OS:RowKit.Hid (OneC ((cellsOf encFtr l).drop (k * 5))):=fun u hu=>OX.out u (List.mem_of_mem_drop hu)
      have VS0:RowKit.Hid (∀ a,Vw wr a ((cellsOf encFtr l).drop (k * 5))):=fun a=>by
        have e:(cellsOf encFtr l).drop (k * 5)=[]:=List.eq_nil_of_length_eq_zero (by simpa using LS.out)
        rw [e];exact Vw.nil _ _
      have i0:(0:Int)≤(k:Int):=by omega
      have i2:(k:Int)≤(c:Int):=by omega
      have hwr:w.heap.size<wr.heap.size:=BR.out.lt
      by_cases hck:c=k
      · obtain rfl:k=c:=hck.symm
        go_wp2
        go_quiet (fail)
        go_wp2
        obtain ⟨q1,hq1⟩:∃ q1,q1=nq:=⟨_,rfl⟩
        subst hq1
        go_quiet (fail)
        go_wp2
        obtain ⟨W9,hW9⟩:∃ W9,wr.drewN (q1+nq)=W9:=⟨_,rfl⟩
        have BW9:RowKit.Hid (Below wr.heap.size wr W9):=by show Below _ _ _;rw [← hW9];exact Bw.out
        have BR9:RowKit.Hid (Blk W9 w.heap.size 49 #[.int .i64 nu,.int .i64 ki,.int .i64 si,.int .i64 ti,.slice fa fn fc]):=BR.out.below BW9.out
        have E9:RowKit.Hid (W9.heap.size=wr.heap.size):=by show W9.heap.size=wr.heap.size;rw [← hW9];rfl
        have VP:=hid (VP.out.below BW9.out)
        have VS:=hid fun a=>(VS0.out a).below BW9.out
        rw [hW9]
        clear hW9 x0
        have x0:W9.cell? ⟨w.heap.size,0,none⟩=some (.int .i64 nu):=BR9.out.cell 0
        have x1:W9.cell? ⟨w.heap.size,1,none⟩=some (.int .i64 ki):=BR9.out.cell 1
        have x2:W9.cell? ⟨w.heap.size,2,none⟩=some (.int .i64 si):=BR9.out.cell 2
        have x3:W9.cell? ⟨w.heap.size,3,none⟩=some (.int .i64 ti):=BR9.out.cell 3
        have x4:W9.cell? ⟨w.heap.size,4,none⟩=some (.slice fa fn fc):=BR9.out.cell 4
        have y9:w.heap.size<W9.heap.size:=BR9.out.lt
        go_region_held3 (fun w'=>w'.cell? ⟨w.heap.size,0,none⟩=some (.int .i64 nu)∧w'.cell? ⟨w.heap.size,1,none⟩=some (.int .i64 ki)∧w'.cell? ⟨w.heap.size,2,none⟩=some (.int .i64 si)∧w'.cell? ⟨w.heap.size,3,none⟩=some (.int .i64 ti)∧w'.cell? ⟨w.heap.size,4,none⟩=some (.slice fa fn fc)) (first | exact ⟨x0,x1,x2,x3,x4⟩ | exact ⟨ka x0,ka x1,ka x2,ka x3,ka x4⟩ | exact ⟨bc1 B3 x0,bc1 B3 x1,bc1 B3 x2,bc1 B3 x3,bc1 B3 x4⟩ | exact ⟨bc1 B2 x0,bc1 B2 x1,bc1 B2 x2,bc1 B2 x3,bc1 B2 x4⟩ | exact ⟨bc1 B1 x0,bc1 B1 x1,bc1 B1 x2,bc1 B1 x3,bc1 B1 x4⟩ | exact ⟨ka (bc1 B1 x0),ka (bc1 B1 x1),ka (bc1 B1 x2),ka (bc1 B1 x3),ka (bc1 B1 x4)⟩ | exact ⟨bc1 (bal B1 _) x0,bc1 (bal B1 _) x1,bc1 (bal B1 _) x2,bc1 (bal B1 _) x3,bc1 (bal B1 _) x4⟩ | exact ⟨bc1 (bal (bdr B1) _) x0,bc1 (bal (bdr B1) _) x1,bc1 (bal (bdr B1) _) x2,bc1 (bal (bdr B1) _) x3,bc1 (bal (bdr B1) _) x4⟩ | simp [go_sem, *]) (first
                      | (refine app_step elFt (by rfl) _ _ (by rfl) W9.heap.size (.slice (some ⟨W9.heap.size,0,none⟩) 0 0) 0 [] (by rfl) (own_lit0 (t:=49) (by first | exact Blk.fresh (by simp) | exact (Blk.fresh (by simp)).drew | exact (Blk.fresh (by simp)).alloc _ | exact ((Blk.fresh (by simp)).alloc _).drew) (by omega)) _ k _ ((cellsOf encFtr l).take (k * 5)) (by rfl) (VP.out.below (by (repeat (with_reducible first | exact Below.refl _ _ | refine bdr ?_ | refine bdn ?_ _ | refine bal ?_ _)))) NP.out LP.out (oneC_take OX.out _) (by omega) (by (simp <;> omega)) ?_;intro v1 w1 hown1 hg1 hat1;have K1:=fun g cs (h:Blk _ g 49 cs) (hne:g ≠ W9.heap.size)=>Eq.trans (hg1.block g (Blk.lt h) (by simpa [Value.ownBlock] using hne)) h;have B1:Below W9.heap.size W9 w1:=Below.grown (by (repeat (with_reducible first | exact Below.refl _ _ | refine bdr ?_ | refine bdn ?_ _ | refine bal ?_ _))) hg1 (by (simp <;> omega)) (by intro q hq;simp [Value.ownBlock] at hq;omega);have z1:=B1.size)
                      | (refine app_step elFt (by rfl) _ _ (by rfl) W9.heap.size (.slice (some ⟨(W9.heap.size+1),0,none⟩) 0 0) 0 [] (by rfl) (own_lit0 (t:=49) (by first | exact Blk.fresh (by simp) | exact (Blk.fresh (by simp)).drew | exact (Blk.fresh (by simp)).alloc _ | exact ((Blk.fresh (by simp)).alloc _).drew) (by omega)) _ k _ ((cellsOf encFtr l).take (k * 5)) (by rfl) (VP.out.below (by (repeat (with_reducible first | exact Below.refl _ _ | refine bdr ?_ | refine bdn ?_ _ | refine bal ?_ _)))) NP.out LP.out (oneC_take OX.out _) (by omega) (by (simp <;> omega)) ?_;intro v1 w1 hown1 hg1 hat1;have K1:=fun g cs (h:Blk _ g 49 cs) (hne:g ≠ (W9.heap.size+1))=>Eq.trans (hg1.block g (Blk.lt h) (by simpa [Value.ownBlock] using hne)) h;have B1:Below W9.heap.size W9 w1:=Below.grown (by (repeat (with_reducible first | exact Below.refl _ _ | refine bdr ?_ | refine bdn ?_ _ | refine bal ?_ _))) hg1 (by (simp <;> omega)) (by intro q hq;simp [Value.ownBlock] at hq;omega);have z1:=B1.size)
                      | (refine app_step elFt (by rfl) _ _ (by rfl) W9.heap.size v1 (0+k) _ (by rfl) (by first | exact hown1 | exact hown1.alloc _) _ 1 _ [.int .i64 nu,.int .i64 ki,.int .i64 si,.int .i64 ti,.slice fa fn fc] (by rfl) (by first | exact vw_blk (Blk.fresh (by simp)) | exact vw_blk (K1 (W9.heap.size+1) (List.toArray [.int .i64 nu,.int .i64 ki,.int .i64 si,.int .i64 ti,.slice fa fn fc]) (by first | exact Blk.fresh (by simp) | exact (Blk.fresh (by simp)).drew | exact (Blk.fresh (by simp)).alloc _ | exact ((Blk.fresh (by simp)).alloc _).drew) (by omega)) | exact vw_blk (K1 W9.heap.size (List.toArray [.int .i64 nu,.int .i64 ki,.int .i64 si,.int .i64 ti,.slice fa fn fc]) (by first | exact Blk.fresh (by simp) | exact (Blk.fresh (by simp)).drew | exact (Blk.fresh (by simp)).alloc _ | exact ((Blk.fresh (by simp)).alloc _).drew) (by omega))) (by simp) (by rfl) (oneC_ft ⟨nu,ki,si,ti,⟨fa,fn,fc,fl⟩⟩) (by omega) (by first | exact z1 | (simp;omega)) ?_;intro v2 w2 hown2 hg2 hat2;have B2:Below W9.heap.size W9 w2:=Below.grown (by (repeat (with_reducible first | exact B1 | exact Below.refl _ _ | refine bdr ?_ | refine bdn ?_ _ | refine bal ?_ _))) hg2 (by first | exact z1 | (simp;omega)) (by intro q hq;exact (hown1.lt q hq).1);have z2:=B2.size)
                      | (refine app_step elFt (by rfl) _ _ (by rfl) W9.heap.size v2 (0+k+1) _ (by rfl) hown2 _ 0 _ ((cellsOf encFtr l).drop (k * 5)) (by rfl) ((VS.out _).below B2) (fun _=>rfl) LS.out OS.out (by omega) z2 ?_;intro v3 w3 hown3 hg3 hat3;have B3:Below W9.heap.size W9 w3:=Below.grown B2 hg3 z2 (by intro q hq;exact (hown2.lt q hq).1);obtain ⟨a3,cap3,rfl,q31,q32,q33⟩:=own_form hown3))
        all_goals
          go_wp2
          go_ret2
          (try simp only [Nat.zero_add,Nat.add_zero] at hown3)
          exact FIN.out _ _ _ (own_base hown3 (by have:=E9.out;omega)) (btr BW9.out B3)
      · go_wp2
        go_quiet (fail)
        go_wp2
        obtain ⟨q1,hq1⟩:∃ q1,q1=nq:=⟨_,rfl⟩
        subst hq1
        go_quiet (fail)
        go_wp2
        obtain ⟨W9,hW9⟩:∃ W9,wr.drewN (q1+nq)=W9:=⟨_,rfl⟩
        have BW9:RowKit.Hid (Below wr.heap.size wr W9):=by show Below _ _ _;rw [← hW9];exact Bw.out
        have BR9:RowKit.Hid (Blk W9 w.heap.size 49 #[.int .i64 nu,.int .i64 ki,.int .i64 si,.int .i64 ti,.slice fa fn fc]):=BR.out.below BW9.out
        have E9:RowKit.Hid (W9.heap.size=wr.heap.size):=by show W9.heap.size=wr.heap.size;rw [← hW9];rfl
        have VP:=hid (VP.out.below BW9.out)
        have VS:=hid fun a=>(VS0.out a).below BW9.out
        rw [hW9]
        clear hW9 x0
        have x0:W9.cell? ⟨w.heap.size,0,none⟩=some (.int .i64 nu):=BR9.out.cell 0
        have x1:W9.cell? ⟨w.heap.size,1,none⟩=some (.int .i64 ki):=BR9.out.cell 1
        have x2:W9.cell? ⟨w.heap.size,2,none⟩=some (.int .i64 si):=BR9.out.cell 2
        have x3:W9.cell? ⟨w.heap.size,3,none⟩=some (.int .i64 ti):=BR9.out.cell 3
        have x4:W9.cell? ⟨w.heap.size,4,none⟩=some (.slice fa fn fc):=BR9.out.cell 4
        have y9:w.heap.size<W9.heap.size:=BR9.out.lt
        go_region_held3 (fun w'=>w'.cell? ⟨w.heap.size,0,none⟩=some (.int .i64 nu)∧w'.cell? ⟨w.heap.size,1,none⟩=some (.int .i64 ki)∧w'.cell? ⟨w.heap.size,2,none⟩=some (.int .i64 si)∧w'.cell? ⟨w.heap.size,3,none⟩=some (.int .i64 ti)∧w'.cell? ⟨w.heap.size,4,none⟩=some (.slice fa fn fc)) (first | exact ⟨x0,x1,x2,x3,x4⟩ | exact ⟨ka x0,ka x1,ka x2,ka x3,ka x4⟩ | exact ⟨bc1 B3 x0,bc1 B3 x1,bc1 B3 x2,bc1 B3 x3,bc1 B3 x4⟩ | exact ⟨bc1 B2 x0,bc1 B2 x1,bc1 B2 x2,bc1 B2 x3,bc1 B2 x4⟩ | exact ⟨bc1 B1 x0,bc1 B1 x1,bc1 B1 x2,bc1 B1 x3,bc1 B1 x4⟩ | exact ⟨ka (bc1 B1 x0),ka (bc1 B1 x1),ka (bc1 B1 x2),ka (bc1 B1 x3),ka (bc1 B1 x4)⟩ | exact ⟨bc1 (bal B1 _) x0,bc1 (bal B1 _) x1,bc1 (bal B1 _) x2,bc1 (bal B1 _) x3,bc1 (bal B1 _) x4⟩ | exact ⟨bc1 (bal (bdr B1) _) x0,bc1 (bal (bdr B1) _) x1,bc1 (bal (bdr B1) _) x2,bc1 (bal (bdr B1) _) x3,bc1 (bal (bdr B1) _) x4⟩ | simp [go_sem, *]) (first
                      | (refine app_step elFt (by rfl) _ _ (by rfl) W9.heap.size (.slice (some ⟨W9.heap.size,0,none⟩) 0 0) 0 [] (by rfl) (own_lit0 (t:=49) (by first | exact Blk.fresh (by simp) | exact (Blk.fresh (by simp)).drew | exact (Blk.fresh (by simp)).alloc _ | exact ((Blk.fresh (by simp)).alloc _).drew) (by omega)) _ k _ ((cellsOf encFtr l).take (k * 5)) (by rfl) (VP.out.below (by (repeat (with_reducible first | exact Below.refl _ _ | refine bdr ?_ | refine bdn ?_ _ | refine bal ?_ _)))) NP.out LP.out (oneC_take OX.out _) (by omega) (by (simp <;> omega)) ?_;intro v1 w1 hown1 hg1 hat1;have K1:=fun g cs (h:Blk _ g 49 cs) (hne:g ≠ W9.heap.size)=>Eq.trans (hg1.block g (Blk.lt h) (by simpa [Value.ownBlock] using hne)) h;have B1:Below W9.heap.size W9 w1:=Below.grown (by (repeat (with_reducible first | exact Below.refl _ _ | refine bdr ?_ | refine bdn ?_ _ | refine bal ?_ _))) hg1 (by (simp <;> omega)) (by intro q hq;simp [Value.ownBlock] at hq;omega);have z1:=B1.size)
                      | (refine app_step elFt (by rfl) _ _ (by rfl) W9.heap.size (.slice (some ⟨(W9.heap.size+1),0,none⟩) 0 0) 0 [] (by rfl) (own_lit0 (t:=49) (by first | exact Blk.fresh (by simp) | exact (Blk.fresh (by simp)).drew | exact (Blk.fresh (by simp)).alloc _ | exact ((Blk.fresh (by simp)).alloc _).drew) (by omega)) _ k _ ((cellsOf encFtr l).take (k * 5)) (by rfl) (VP.out.below (by (repeat (with_reducible first | exact Below.refl _ _ | refine bdr ?_ | refine bdn ?_ _ | refine bal ?_ _)))) NP.out LP.out (oneC_take OX.out _) (by omega) (by (simp <;> omega)) ?_;intro v1 w1 hown1 hg1 hat1;have K1:=fun g cs (h:Blk _ g 49 cs) (hne:g ≠ (W9.heap.size+1))=>Eq.trans (hg1.block g (Blk.lt h) (by simpa [Value.ownBlock] using hne)) h;have B1:Below W9.heap.size W9 w1:=Below.grown (by (repeat (with_reducible first | exact Below.refl _ _ | refine bdr ?_ | refine bdn ?_ _ | refine bal ?_ _))) hg1 (by (simp <;> omega)) (by intro q hq;simp [Value.ownBlock] at hq;omega);have z1:=B1.size)
                      | (refine app_step elFt (by rfl) _ _ (by rfl) W9.heap.size v1 (0+k) _ (by rfl) (by first | exact hown1 | exact hown1.alloc _) _ 1 _ [.int .i64 nu,.int .i64 ki,.int .i64 si,.int .i64 ti,.slice fa fn fc] (by rfl) (by first | exact vw_blk (Blk.fresh (by simp)) | exact vw_blk (K1 (W9.heap.size+1) (List.toArray [.int .i64 nu,.int .i64 ki,.int .i64 si,.int .i64 ti,.slice fa fn fc]) (by first | exact Blk.fresh (by simp) | exact (Blk.fresh (by simp)).drew | exact (Blk.fresh (by simp)).alloc _ | exact ((Blk.fresh (by simp)).alloc _).drew) (by omega)) | exact vw_blk (K1 W9.heap.size (List.toArray [.int .i64 nu,.int .i64 ki,.int .i64 si,.int .i64 ti,.slice fa fn fc]) (by first | exact Blk.fresh (by simp) | exact (Blk.fresh (by simp)).drew | exact (Blk.fresh (by simp)).alloc _ | exact ((Blk.fresh (by simp)).alloc _).drew) (by omega))) (by simp) (by rfl) (oneC_ft ⟨nu,ki,si,ti,⟨fa,fn,fc,fl⟩⟩) (by omega) (by first | exact z1 | (simp;omega)) ?_;intro v2 w2 hown2 hg2 hat2;have B2:Below W9.heap.size W9 w2:=Below.grown (by (repeat (with_reducible first | exact B1 | exact Below.refl _ _ | refine bdr ?_ | refine bdn ?_ _ | refine bal ?_ _))) hg2 (by first | exact z1 | (simp;omega)) (by intro q hq;exact (hown1.lt q hq).1);have z2:=B2.size)
                      | (refine app_step elFt (by rfl) _ _ (by rfl) W9.heap.size v2 (0+k+1) _ (by rfl) hown2 _ 0 _ ((cellsOf encFtr l).drop (k * 5)) (by rfl) ((VS.out _).below B2) (fun _=>rfl) LS.out OS.out (by omega) z2 ?_;intro v3 w3 hown3 hg3 hat3;have B3:Below W9.heap.size W9 w3:=Below.grown B2 hg3 z2 (by intro q hq;exact (hown2.lt q hq).1);obtain ⟨a3,cap3,rfl,q31,q32,q33⟩:=own_form hown3))
        all_goals
          go_wp2
          go_ret2
          (try simp only [Nat.zero_add,Nat.add_zero] at hown3)
          exact FIN.out _ _ _ (own_base hown3 (by have:=E9.out;omega)) (btr BW9.out B3)
structure RH (w:World) (s:Sc RcdM) (m:Nat):Prop where
 rws:Rws encRcd w s m
 cap:s.n≤s.c∧s.c≤maxLen∧(s.a=none→s.c=0)
 rows:∀ r ∈ s.l,ScOk2 w r.s
 hist:HistOk (s.l.map RcdM.pl)
 can:∀ r ∈ s.l,IsCan (inRc r.s.l) r.s.l∧Board (inRc r.s.l)
theorem RH.below {w w':World} {s:Sc RcdM} {m:Nat} (h:RH w s m) (hb:Below w.heap.size w w'):RH w' s m:=⟨h.rws.below hb,h.cap,fun r hr=>(h.rows r hr).below hb,h.hist,h.can⟩
theorem cell_lt {w:World} {c off:Nat} {v:Value} (h:w.cell? ⟨c,off,none⟩=some v):c<w.heap.size:=by
 by_cases e:c<w.heap.size
 ·exact e
 ·simp [World.cell?,Array.getElem?_eq_none (Nat.le_of_not_lt e)] at h
theorem Rws.wide {α:Type} {enc:α→List Value} {w:World} {s:Sc α} {m k:Nat} (h:Rws enc w s m) (hk:m≤k):Rws enc w s k:=⟨h.vw,h.len,Nat.le_trans h.few hk,h.nil⟩
def Apart (v:Value) (s:Sc Rc):Prop:=s.l ≠ []→∀ g off,s.a=some ⟨g,off,none⟩→v.ownBlock ≠ some g
theorem ok_grown {w w':World} {s:Sc Rc} {o:Option Nat} (h:ScOk2 w s) (hg:w.grownBy w' o) (ha:s.l ≠ []→∀ g off,s.a=some ⟨g,off,none⟩→o ≠ some g):ScOk2 w' s:=by
 by_cases hne:s.l=[]
 ·exact ⟨⟨fun i v hi=>by rw [hne] at hi;simp [rcCells,cellsOf] at hi,h.1.2⟩,h.2.1,fun k=>absurd hne k⟩
 replace ha:=ha hne
 have hk:∀ g off,s.a=some ⟨g,off,none⟩→g<w.heap.size→w'.heap[g]? = w.heap[g]?:=fun g off e hl=>hg.block g hl (Ne.symm (ha g off e))
 refine ⟨⟨fun i v hi=>?_,h.1.2⟩,h.2.1,fun hl=>?_⟩
 ·obtain ⟨c,off,e,hc⟩:=h.1.1 i v hi
  exact ⟨c,off,e,(World.cell?_of_block (w:=w) (w':=w') (a:=⟨c,off+i,none⟩) (hk c off e (cell_lt hc))).trans hc⟩
 ·obtain ⟨c,off,T,cs,h1,h2,h3⟩:=h.2.2 hl
  exact ⟨c,off,T,cs,h1,(hk c off h1 h2.lt).trans h2,h3⟩
structure RIn (wr:World) (l:List RcdM) (year crop:Int) (A:Sq) (k:Nat) (mine:Sc Rc) (v:Value) (ol:List RcdM):Prop where
 mok:ScOk2 wr mine
 mcan:IsCan (mineS ((l.take k).map RcdM.pl) year crop A) mine.l
 mapart:Apart v mine
 rows:∀ r ∈ ol,ScOk2 wr r.s∧Apart v r.s
 can:∀ r ∈ ol,IsCan (inRc r.s.l) r.s.l∧Board (inRc r.s.l)
 put:HPut ((l.take k).map RcdM.pl) year crop A (ol.map RcdM.pl)
theorem RIn.below {w w':World} {l:List RcdM} {year crop:Int} {A:Sq} {k:Nat} {mine:Sc Rc} {v:Value} {ol:List RcdM} (h:RIn w l year crop A k mine v ol) (hb:Below w.heap.size w w'):RIn w' l year crop A k mine v ol :=
 ⟨h.mok.below hb,h.mcan,h.mapart,fun r hr=>⟨(h.rows r hr).1.below hb,(h.rows r hr).2⟩,h.can,h.put⟩
theorem mine_board {l:List RcdM} {year crop:Int} {A:Sq} (hA:Board A) (hl:∀ r ∈ l,Board (inRc r.s.l)):Board (mineS (l.map RcdM.pl) year crop A):=by
 rintro x y (h | ⟨r,hr,-,h⟩)
 ·exact hA x y h
 ·obtain ⟨q,hq,rfl⟩:=List.mem_map.1 hr
  exact hl q hq x y h
theorem take_pl {l:List RcdM} {k:Nat} (h:k<l.length):(l.take (k+1)).map RcdM.pl=(l.take k).map RcdM.pl++[l[k].pl]:=by
 rw [List.take_succ_eq_append_getElem h,List.map_append];rfl
theorem apart_app {w:World} {v v3:Value} {s:Sc Rc} (h:ScOk2 w s) (ha:Apart v s) (hv:v3.ownBlock=v.ownBlock∨v3.ownBlock=some w.heap.size):Apart v3 s:=fun hl g off e=>by
 rcases hv with hv | hv
 ·rw [hv];exact ha hl g off e
 ·obtain ⟨c,o,T,cs,h1,h2,-⟩:=h.2.2 hl
  rw [h1] at e
  cases e
  rw [hv]
  intro e
  cases e
  exact absurd h2.lt (Nat.lt_irrefl _)
theorem apart_new {w:World} {base k n:Nat} {t:TypeId} {v:Value} {xs:List Value} {s:Sc Rc} (ho:w.ownsRow base t k v n xs) (hf:∀ b off,s.a=some ⟨b,off,none⟩→w.heap.size≤b):Apart v s:=fun _ g off e h=>by
 have:=(ho.lt g h).2
 have:=hf g off e
 omega
theorem apart_old {w wr:World} {base k n:Nat} {t:TypeId} {v:Value} {xs:List Value} {s:Sc Rc} (ho:wr.ownsRow base t k v n xs) (hs:ScOk2 w s) (hb:w.heap.size≤base):Apart v s:=fun hl g off e h=>by
 obtain ⟨c,o,T,cs,h1,h2,-⟩:=hs.2.2 hl
 rw [h1] at e
 cases e
 have:=(ho.lt _ h).1
 have:=h2.lt
 omega
theorem RIn.app {w w':World} {l:List RcdM} {year crop:Int} {A:Sq} {k:Nat} {mine:Sc Rc} {v v3:Value} {ol:List RcdM} (h:RIn w l year crop A k mine v ol) (hg:w.grownBy w' v.ownBlock) (hv:v3.ownBlock=v.ownBlock∨v3.ownBlock=some w.heap.size):RIn w' l year crop A k mine v3 ol :=
 ⟨ok_grown h.mok hg h.mapart,h.mcan,apart_app h.mok h.mapart hv,fun r hr=>⟨ok_grown (h.rows r hr).1 hg (h.rows r hr).2,apart_app (h.rows r hr).1 (h.rows r hr).2 hv⟩,h.can,h.put⟩
theorem RIn.keep {w:World} {l:List RcdM} {year crop:Int} {A:Sq} {k:Nat} {mine:Sc Rc} {v:Value} {ol:List RcdM} {r s:RcdM} (h:RIn w l year crop A k mine v ol) (hl:HistOk (l.map RcdM.pl)) (ht:(l.take (k+1)).map RcdM.pl=(l.take k).map RcdM.pl++[r.pl]) (hn:¬ (r.year=year∧r.crop=crop))
  (h1:s.year=r.year) (h2:s.crop=r.crop) (h3:∀ x y,inRc s.s.l x y↔inRc r.s.l x y∧(r.year=year→¬ A x y)) (h4:s.pl.Ok) (hs:ScOk2 w s.s) (ha:Apart v s.s) (hc:IsCan (inRc s.s.l) s.s.l∧Board (inRc s.s.l)):RIn w l year crop A (k+1) mine v (ol++[s]):=by
 refine ⟨h.mok,?_,h.mapart,fun t ht=>?_,fun t ht=>?_,?_⟩
 ·rw [ht];exact h.mcan.congr fun x y=>mineS_other hn x y
 ·rcases List.mem_append.1 ht with ht | ht
  ·exact h.rows t ht
  ·rw [List.mem_singleton.1 ht];exact ⟨hs,ha⟩
 ·rcases List.mem_append.1 ht with ht | ht
  ·exact h.can t ht
  ·rw [List.mem_singleton.1 ht];exact hc
 ·rw [ht,List.map_append]
  refine h.put.keep ?_ hn h1 h2 h3 h4
  rw [← ht,List.map_take]
  exact hl.pair.sublist (List.take_sublist _ _)
theorem RIn.drop {w:World} {l:List RcdM} {year crop:Int} {A:Sq} {k:Nat} {mine:Sc Rc} {v:Value} {ol:List RcdM} {r:RcdM} (h:RIn w l year crop A k mine v ol) (ht:(l.take (k+1)).map RcdM.pl=(l.take k).map RcdM.pl++[r.pl]) (hn:¬ (r.year=year∧r.crop=crop)) (he:∀ x y,¬ (inRc r.s.l x y∧(r.year=year→¬ A x y))):RIn w l year crop A (k+1) mine v ol:=by
 refine ⟨h.mok,?_,h.mapart,h.rows,h.can,?_⟩
 ·rw [ht];exact h.mcan.congr fun x y=>mineS_other hn x y
 ·rw [ht];exact h.put.drop he
theorem RIn.same {w:World} {l:List RcdM} {year crop:Int} {A:Sq} {k:Nat} {mine m2:Sc Rc} {v:Value} {ol:List RcdM} {r:RcdM} (h:RIn w l year crop A k mine v ol) (ht:(l.take (k+1)).map RcdM.pl=(l.take k).map RcdM.pl++[r.pl]) (hn:r.year=year∧r.crop=crop) (h1:ScOk2 w m2) (h2:IsCan (mineS ((l.take k).map RcdM.pl++[r.pl]) year crop A) m2.l) (h3:Apart v m2):RIn w l year crop A (k+1) m2 v ol :=
 ⟨h1,ht ▸ h2,h3,h.rows,h.can,ht ▸ h.put.same hn⟩
theorem own_snoc {w:World} {base:Nat} {v:Value} {ol:List RcdM} {r:RcdM} (h:w.ownsRow base 47 3 v (ol.length+1) (cellsOf encRcd ol++encRcd r)):w.ownsRow base 47 3 v (ol++[r]).length (cellsOf encRcd (ol++[r])):=by
 have e:cellsOf encRcd (ol++[r])=cellsOf encRcd ol++encRcd r:=by simp [cellsOf]
 rw [e,List.length_append]
 exact h
theorem RIn.len {w:World} {l:List RcdM} {year crop:Int} {A:Sq} {k:Nat} {mine:Sc Rc} {v:Value} {ol:List RcdM} (h:RIn w l year crop A k mine v ol):ol.length≤k:=by
 have:=h.put.len
 simp at this
 omega
theorem ok_setCell {w:World} {s:Sc Rc} {b o:Nat} {v:Value} (h:ScOk2 w s) (hne:∀ g off,s.a=some ⟨g,off,none⟩→b ≠ g):ScOk2 (w.setCell ⟨b,o,none⟩ v) s :=
 ok_grown (o:=some b) h ⟨rfl,rfl,rfl,by simp [World.setCell],fun i _ hn=>Below.heap_setCell _ _ _ _ (by simpa using hn)⟩ fun _ g off e h=>hne g off e (Option.some.inj h)
theorem rec_put {wr w3 WP:World} {y c:Int} {n k n3 c3:Nat} {a a3:Option Addr} {l3:List Rc} (hW:w3.setCell ⟨wr.heap.size,2,none⟩ (.slice a3 n3 c3)=WP) (hB:Blk w3 wr.heap.size 47 #[.int .i64 y,.int .i64 c,.slice a n k]) (hb:Below wr.heap.size wr w3) (hs:ScOk2 w3 ⟨a3,n3,c3,l3⟩) (hne:∀ g off,a3=some ⟨g,off,none⟩→wr.heap.size ≠ g) :
  RowKit.Hid (Blk WP wr.heap.size 47 #[.int .i64 y,.int .i64 c,.slice a3 n3 c3])∧RowKit.Hid (Below wr.heap.size wr WP)∧RowKit.Hid (ScOk2 WP ⟨a3,n3,c3,l3⟩)∧WP.cell? ⟨wr.heap.size,2,none⟩=some (.slice a3 n3 c3):=by
 subst hW
 have h:Blk (w3.setCell ⟨wr.heap.size,2,none⟩ (.slice a3 n3 c3)) wr.heap.size 47 #[.int .i64 y,.int .i64 c,.slice a3 n3 c3]:=hB.put 2 _
 exact ⟨h,bst hb _ _ _ (Nat.le_refl _),ok_setCell hs hne,h.cell 2⟩
theorem radd_ok {S:Sq} {year crop:Int} {s:Sc Rc} (hy:0≤year∧year≤100) (hc:0≤crop∧crop<40) (h:IsCan S s.l) (hb:Board S) (hne:s.l ≠ []):(RcdM.pl ⟨year,crop,s⟩).Ok:=⟨hy,hc,hne,vld_can h hb⟩
theorem ins_all {α:Type} {P:α→Prop} {l:List α} {k:Nat} {m:α} (h:∀ r ∈ l,P r) (hm:P m):∀ r ∈ l.take k++[m]++l.drop k,P r:=fun r hr=>by
 rcases List.mem_append.1 hr with hr | hr
 ·rcases List.mem_append.1 hr with hr | hr
  ·exact h r (List.mem_of_mem_take hr)
  ·rw [List.mem_singleton.1 hr];exact hm
 ·exact h r (List.mem_of_mem_drop hr)
theorem own_ins {w w0:World} {v:Value} {n k:Nat} {ol:List RcdM} {m:RcdM} {base:Nat} (h:w.ownsRow w0.heap.size 47 3 v n ((cellsOf encRcd ol).take (k * 3)++encRcd m++(cellsOf encRcd ol).drop (k * 3))) (hb:base≤w0.heap.size):w.ownsRow base 47 3 v n (cellsOf encRcd (ol.take k++[m]++ol.drop k)):=by
 have e:cellsOf encRcd (ol.take k++[m]++ol.drop k)=(cellsOf encRcd ol).take (k * 3)++encRcd m++(cellsOf encRcd ol).drop (k * 3):=by
  rw [cellsOf_append,cellsOf_append,← cellsOf_take encRcd_len,cellsOf_drop encRcd_len];simp [cellsOf]
 rw [e]
 exact own_base h hb
theorem ins_len {α:Type} {l:List α} {k n N:Nat} {m:α} (hN:N=l.length) (hk:k≤N) (hn:n=k+1+(N - k)):(l.take k++[m]++l.drop k).length=n:=by
 subst hN
 rw [List.length_append,List.length_append,List.length_take,List.length_drop,hn,Nat.min_eq_left hk]
 rfl
def RAddP (w:World) (l:List RcdM) (year crop:Int) (A:Sq) (e:Ending) (w':World):Prop :=
 ∃ s:Sc RcdM,e=.returned (.tuple #[.slice s.a s.n s.c,.int .i64 0])∧w'.ownsRow w.heap.size 47 3 (.slice s.a s.n s.c) s.n (cellsOf encRcd s.l)∧s.l.length=s.n∧HAdded (l.map RcdM.pl) year crop A (s.l.map RcdM.pl)∧(∀ r ∈ s.l,ScOk2 w' r.s)∧(∀ r ∈ s.l,IsCan (inRc r.s.l) r.s.l∧Board (inRc r.s.l))∧Below w.heap.size w w'
theorem radd_any (s:Sc RcdM) (g:Sc Rc) (year crop:Int) (w:World) (h:RH w s 100) (hg:ScOk2 w g) (hgc:IsCan (inRc g.l) g.l) (hgb:Board (inRc g.l)) (y1:0≤year) (y2:year≤100) (q1:0≤crop) (q2:crop<40) :
    Calls Tryz.prog 32 #[.slice s.a s.n s.c,.int .i64 year,.int .i64 crop,.agg #[.slice g.a g.n g.c]] w (RAddP w s.l year crop (inRc g.l)):=by
  obtain ⟨a,n,c,l⟩:=s
  obtain ⟨ga,gn,gc,gl⟩:=g
  dsimp only at hg hgc hgb ⊢
  have HR:=hid h;have HGO:=hid hg;have HGC:=hid hgc;have HGB:=hid hgb
  obtain ⟨W,hW⟩:∃ W,w.alloc (.cells #[.slice ga gn gc] 38)=W:=⟨_,rfl⟩
  have B0:RowKit.Hid (Blk W w.heap.size 38 #[.slice ga gn gc]):=by show Blk _ _ _ _;rw [← hW];exact Blk.new w _ _
  have BB:RowKit.Hid (Below w.heap.size w W):=by show Below _ _ _;rw [← hW];exact Bw.out
  have HCK:=hid (rhcheck_any ⟨a,n,c,l⟩ W ((h.rws.below BB.out).wide (by omega)) ⟨h.cap.1,h.cap.2.1⟩ (fun r hr=>(h.rows r hr).below BB.out) h.hist.good)
  have HSRT:=hid h.hist.sort
  have HV:=hid fun W' (hW':Below w.heap.size w W')=>rvalid_any ga gn gc gl W' (hg.1.1.below hW') hg.1.2.1 (by have:gn≤100000:=hg.1.2.2;omega)
  have V:=hid (vld_can hgc hgb)
  have hn:l.length=n:=h.rws.len
  have HN:=hid hn
  have hm:n≤100:=h.rws.few
  have x0:W.cell? ⟨w.heap.size,0,none⟩=some (.slice ga gn gc):=B0.out.cell 0
  clear h hg hgc hgb hn
  go_enter Tryz.func32,Tryz.ntmps32
  go_wp2_with (first
    | (go_at_call 57;refine HCK.out.mono ?_;rintro e w1 ⟨x,rfl,hx,hb1⟩;obtain rfl:x=0:=hx.1 HSRT.out;clear hx;have x1:=bc1 hb1 x0;have B1:=hid (B0.out.below hb1);have HB1:=hid (btr BB.out hb1);clear hb1)
    | (go_at_call 59;refine (HV.out _ HB1.out).mono ?_;rintro e w2 ⟨b1,rfl,hi,hb2⟩;obtain rfl:b1=true:=hi.2 V.out;clear hi;have x2:=bc1 hb2 x1;have B2:=hid (B1.out.below hb2);have HB2:=hid (btr HB1.out hb2);clear hb2))
  go_loopw [11,12,45] (fun mi v i wr=>∃ (k:Nat) (mine:Sc Rc) (ol:List RcdM),k≤n∧i=.int .i64 k∧mi=.slice mine.a mine.n mine.c∧wr.ownsRow w2.heap.size 47 3 v ol.length (cellsOf encRcd ol)∧RIn wr l year crop (inRc gl) k mine v ol∧Below w2.heap.size w2 wr) (fun _ _ i _=>n - (intOf i).toNat)
  case atStart=>exact ⟨0,⟨ga,gn,gc,gl⟩,[],Nat.zero_le _,rfl,rfl,World.ownsRow_nil _ _ _ _,⟨HGO.out.below HB2.out,HGC.out.congr fun x y=>mineS_nil _ _ _ x y,(fun _ g off e h=>by cases h),(fun r hr=>by cases hr),(fun r hr=>by cases hr),HPut.nil _ _ _⟩,Below.refl _ _⟩
  case round =>
    obtain ⟨k,⟨am,nm,cm,lm⟩,ol,hk,rfl,rfl,hown,hin,hb⟩:=hrel
    have HOWN:=hid hown;have HIN:=hid hin;have HB:=hid hb
    have HBW:=hid (btr HB2.out hb)
    have BR:=hid (B2.out.below hb)
    obtain ⟨av,cv,rfl,hcap,-,hav⟩:=own_form hown
    have HAV:=hid hav
    have r0:wr.cell? ⟨w.heap.size,0,none⟩=some (.slice ga gn gc):=BR.out.cell 0
    have y9:w.heap.size<wr.heap.size:=BR.out.lt
    clear hown hin hb hav
    by_cases hlt:k<n
    · have hke:k<l.length:=by rw [HN.out];exact hlt
      obtain ⟨b,off,rfl,hbl,hrg⟩:=HR.out.rws.vw.range (k:=3) (fun x _=>encRcd_len x) (by omega) k hke
      have HRG:=hid (rangeAt_below hrg HBW.out)
      have HSK:=hid ((HR.out.rows _ (List.getElem_mem hke)).below HBW.out)
      have HSW:=hid (HR.out.rows _ (List.getElem_mem hke))
      have HRK:=hid (HR.out.can _ (List.getElem_mem hke))
      have HOK:=hid (HR.out.hist.mem (List.mem_map.2 ⟨_,List.getElem_mem hke,rfl⟩))
      have HTK:=hid (take_pl hke)
      have HMB:=hid (mine_board (l:=l.take (k+1)) (year:=year) (crop:=crop) HGB.out fun r hr=>(HR.out.can r (List.mem_of_mem_take hr)).2)
      rw [HTK.out] at HMB
      clear hrg
      obtain ⟨r,hr⟩:∃ r,l[k]=r:=⟨_,rfl⟩
      rw [hr] at HRG HSK HSW HRK HOK HTK HMB
      clear hr
      obtain ⟨ry,rc,⟨ra,rn,rcp,rl⟩⟩:=r
      dsimp only [encRcd] at HRG
      obtain ⟨W1,hW1⟩:∃ W1,wr.alloc (.cells #[.int .i64 ry,.int .i64 rc,.slice ra rn rcp] 47)=W1:=⟨_,rfl⟩
      have BX:RowKit.Hid (Blk W1 wr.heap.size 47 #[.int .i64 ry,.int .i64 rc,.slice ra rn rcp]):=by show Blk _ _ _ _;rw [← hW1];exact Blk.new _ _ _
      have BW:RowKit.Hid (Below wr.heap.size wr W1):=by show Below _ _ _;rw [← hW1];exact Bw.out
      have q0:W1.cell? ⟨wr.heap.size,0,none⟩=some (.int .i64 ry):=BX.out.cell 0
      have q1:W1.cell? ⟨wr.heap.size,1,none⟩=some (.int .i64 rc):=BX.out.cell 1
      have q2:W1.cell? ⟨wr.heap.size,2,none⟩=some (.slice ra rn rcp):=BX.out.cell 2
      have r1:=bc1 BW.out r0
      by_cases hy:ry=year
      · subst hy
        by_cases hc:rc=crop
        · subst hc
          have HC:=hid (comb_any am nm cm lm ra rn rcp rl 1 _ W1 (HIN.out.mok.below BW.out).1 (HSK.out.below BW.out).1 fun x y=>(keep_or lm rl x y).trans ((or_congr (HIN.out.mcan.iff x y) Iff.rfl).trans (mineS_same (r:=RcdM.pl ⟨ry,rc,⟨ra,rn,rcp,rl⟩⟩) ⟨rfl,rfl⟩ x y)))
          go_wp2_with (first
            | (refine wpList_load_mid rfl 47 (.tmp 47) rfl b (off+k * 3) rfl [.int .i64 ry,.int .i64 rc,.slice ra rn rcp] _ HRG.out Tryz.underlying47 rfl rdInfo ?_)
            | (refine st_new rfl 47 (.tmp 14) (.tmp 48) rfl #[.int .i64 ry,.int .i64 rc,.slice ra rn rcp] _ _ rfl rfl rdInfo rfl (rd_one _ _ _ _ _) ?_;rw [hW1])
            | (go_at_call 62;refine HC.out.mono ?_;rintro e w3 hnc;obtain ⟨a3,n3,c3,l3,rfl,s3,i3,hb3,f3,m3⟩:=hnc.toB HMB.out;have S3:=hid s3;have I3:=hid i3;have F3:=hid f3;have HB3:=hid (btr BW.out hb3);clear s3 i3 f3 hb3))
          go_roundw
          case rel =>
            exact ⟨k+1,⟨a3,n3,c3,l3⟩,ol,by omega,by go_num,rfl,own_keep HOWN.out HB3.out,(HIN.out.below HB3.out).same HTK.out ⟨rfl,rfl⟩ S3.out I3.out (apart_new HOWN.out fun g off e=>Nat.le_trans BW.out.size (F3.out g off e)),btr HB.out HB3.out⟩
          case measure=>simp [intOf];omega
        · have hc':((rc:Int) == crop)=false:=by simpa using hc
          have hol:ol.length≤100:=by have:=HIN.out.len;omega
          have HC:=hid (comb_any ra rn rcp rl ga gn gc gl 3 (fun x y=>inRc rl x y∧¬ inRc gl x y) W1 (HSK.out.below BW.out).1 ((HGO.out.below (btr HBW.out BW.out))).1 (keep_not rl gl))
          go_wp2_with (first
            | (refine wpList_load_mid rfl 47 (.tmp 47) rfl b (off+k * 3) rfl [.int .i64 ry,.int .i64 rc,.slice ra rn rcp] _ HRG.out Tryz.underlying47 rfl rdInfo ?_)
            | (refine st_new rfl 47 (.tmp 14) (.tmp 48) rfl #[.int .i64 ry,.int .i64 rc,.slice ra rn rcp] _ _ rfl rfl rdInfo rfl (rd_one _ _ _ _ _) ?_;rw [hW1])
            | (go_at_call 62;refine HC.out.mono ?_;rintro e w3 hnc;obtain ⟨a3,n3,c3,l3,rfl,s3,i3,hb3,f3,m3⟩:=hnc.toB fun x y h=>HRK.out.2 x y h.1;have S3:=hid s3;have I3:=hid i3;have F3:=hid f3;have HB3:=hid (btr BW.out hb3);have BX3:=hid (BX.out.below hb3);have q3:w3.cell? ⟨wr.heap.size,2,none⟩=some (.slice ra rn rcp):=BX3.out.cell 2;have z3:w3.frozen? ⟨wr.heap.size,2,none⟩=false:=BX3.out.free 2;obtain ⟨WP,hWP⟩:∃ WP,w3.setCell ⟨wr.heap.size,2,none⟩ (.slice a3 n3 c3)=WP:=⟨_,rfl⟩;obtain ⟨BXP,BWP,SP,p2⟩:=rec_put hWP BX3.out HB3.out S3.out (fun g off e=>by have:=F3.out g off e;have:=BX.out.lt;omega);clear s3 i3 f3 hb3)
            | (rw [hWP];clear hWP)
            | (refine wpList_load_row rfl 47 (.tmp 14) rfl wr.heap.size rfl _ #[.int .i64 ry,.int .i64 rc,.slice a3 n3 c3] _ _ BXP.out Tryz.underlying47 rfl rdInfo ?_)
            | (refine bs_one elRd (by decide) rfl (.tmp 82) rfl #[.int .i64 ry,.int .i64 rc,.slice a3 n3 c3] rfl rfl ?_)
            | (at_builtin;refine app_list elRd rfl _ _ rfl w2.heap.size _ ol.length _ rfl (own_keep HOWN.out (bal BWP.out _)) _ 1 _ (encRcd ⟨ry,rc,⟨a3,n3,c3,l3⟩⟩) rfl (by first | exact vw_blk (Blk.fresh (by simp)) | exact vw_blk (Blk.fresh (by simp)).drew) (by simp) rfl (oneC_rd _) (by omega) (by have:=HB.out.size;have:=BWP.out.size;simp;omega) ?_;intro v3 w4 hown3 hg3 hv3))
          all_goals go_roundw
          · have hn3:=‹(0<n3)›
            have hne:l3 ≠ []:=fun e=>by
              have:=SP.out.1.2.1;dsimp only at this;rw [e] at this;simp at this;omega
            refine ⟨k+1,⟨am,nm,cm,lm⟩,ol++[⟨ry,rc,⟨a3,n3,c3,l3⟩⟩],by omega,by go_num,rfl,own_snoc hown3,?_,?_⟩
            · exact ((HIN.out.below (bal BWP.out _)).keep (s:=⟨ry,rc,⟨a3,n3,c3,l3⟩⟩) HR.out.hist HTK.out (fun h=>hc h.2) rfl rfl (fun x y=>(I3.out.iff x y).trans ⟨fun h=>⟨h.1,fun _=>h.2⟩,fun h=>⟨h.1,h.2 rfl⟩⟩) ⟨HOK.out.year,HOK.out.crop,hne,vld_can I3.out fun x y h=>HRK.out.2 x y h.1⟩ (SP.out.below (bal (Below.refl _ _) _)) (apart_new HOWN.out fun g off e=>Nat.le_trans BW.out.size (F3.out g off e)) ⟨I3.out.self,fun x y h=>HRK.out.2 x y ((I3.out.iff x y).1 h).1⟩).app hg3 hv3
            · exact Below.grown (bal (btr HB.out BWP.out) _) hg3 (by have:=HB.out.size;have:=BWP.out.size;simp;omega) fun q hq=>(HOWN.out.lt q hq).1
          · simp [intOf];omega
          · have hn3:=‹¬ (0<n3)›
            have he:l3=[]:=List.eq_nil_of_length_eq_zero (by have:=SP.out.1.2.1;dsimp only at this;omega)
            refine ⟨k+1,⟨am,nm,cm,lm⟩,ol,by omega,by go_num,rfl,own_keep HOWN.out BWP.out,(HIN.out.below BWP.out).drop HTK.out (fun h=>hc h.2) fun x y h=>?_,btr HB.out BWP.out⟩
            have:=(I3.out.iff x y).2 ⟨h.1,h.2 rfl⟩
            rw [he] at this
            obtain ⟨t,ht,-⟩:=this
            cases ht
          · simp [intOf];omega
      · have hy':((ry:Int) == year)=false:=by simpa using hy
        have hn0:0<rn:=by have:=List.length_pos_iff.2 HOK.out.some;have:=HSK.out.1.2.1;dsimp only [RcdM.pl] at *;omega
        have hol:ol.length≤100:=by have:=HIN.out.len;omega
        go_wp2_with (first
          | (refine wpList_load_mid rfl 47 (.tmp 47) rfl b (off+k * 3) rfl [.int .i64 ry,.int .i64 rc,.slice ra rn rcp] _ HRG.out Tryz.underlying47 rfl rdInfo ?_)
          | (refine st_new rfl 47 (.tmp 14) (.tmp 48) rfl #[.int .i64 ry,.int .i64 rc,.slice ra rn rcp] _ _ rfl rfl rdInfo rfl (rd_one _ _ _ _ _) ?_;rw [hW1])
          | (refine wpList_load_row rfl 47 (.tmp 14) rfl wr.heap.size rfl _ #[.int .i64 ry,.int .i64 rc,.slice ra rn rcp] _ _ BX.out Tryz.underlying47 rfl rdInfo ?_)
          | (refine bs_one elRd (by decide) rfl (.tmp 82) rfl #[.int .i64 ry,.int .i64 rc,.slice ra rn rcp] rfl rfl ?_)
          | (at_builtin;refine app_list elRd rfl _ _ rfl w2.heap.size _ ol.length _ rfl (own_keep HOWN.out (bal BW.out _)) _ 1 _ (encRcd ⟨ry,rc,⟨ra,rn,rcp,rl⟩⟩) rfl (by first | exact vw_blk (Blk.fresh (by simp)) | exact vw_blk (Blk.fresh (by simp)).drew) (by simp) rfl (oneC_rd _) (by omega) (by have:=HB.out.size;have:=BW.out.size;simp;omega) ?_;intro v3 w4 hown3 hg3 hv3))
        go_roundw
        case rel =>
          refine ⟨k+1,⟨am,nm,cm,lm⟩,ol++[⟨ry,rc,⟨ra,rn,rcp,rl⟩⟩],by omega,by go_num,rfl,own_snoc hown3,?_,?_⟩
          · exact ((HIN.out.below (bal BW.out _)).keep (s:=⟨ry,rc,⟨ra,rn,rcp,rl⟩⟩) HR.out.hist HTK.out (fun h=>hy h.1) rfl rfl (fun x y=>⟨fun h=>⟨h,fun e=>absurd e hy⟩,And.left⟩) HOK.out (HSK.out.below (bal BW.out _)) (apart_old (own_keep HOWN.out BW.out) HSW.out HB2.out.size) HRK.out).app hg3 hv3
          · exact Below.grown (bal (btr HB.out BW.out) _) hg3 (by have:=HB.out.size;have:=BW.out.size;simp;omega) fun q hq=>(HOWN.out.lt q hq).1
        case measure=>simp [intOf];omega
    · obtain rfl:k=n:=by omega
      have htk:l.take k=l:=List.take_of_length_le (by have:=HN.out;omega)
      have hol:ol.length≤100:=by have:=HIN.out.len;omega
      by_cases hnm:nm=0
      · have hlm:lm=[]:=List.eq_nil_of_length_eq_zero (by have:=HIN.out.mok.1.2.1;dsimp only at this;omega)
        have HAD:RowKit.Hid (HAdded (l.map RcdM.pl) year crop (inRc gl) (ol.map RcdM.pl)):=by
          have hp:=HIN.out.put
          have hmc:=HIN.out.mcan
          rw [htk] at hp hmc
          refine hp.none (by rw [List.length_map];have:=HN.out;omega) fun x y h=>?_
          have:=(hmc.iff x y).2 h
          dsimp only at this
          rw [hlm] at this
          obtain ⟨t,ht,-⟩:=this
          cases ht
        subst hnm
        have HLE:RowKit.Hid (ol.length=ol.length):=hid rfl
        have HFR:RowKit.Hid (∀ r ∈ ol,ScOk2 wr r.s):=fun r hr=>(HIN.out.rows r hr).1
        have HFC:=hid HIN.out.can
        have HBS:=hid HB2.out.size
        have HFB:=HBW
        go_wp2
        go_loopw [143] (fun i wy=>∃ j:Nat,j≤ol.length∧i=.int .i64 j∧Below wr.heap.size wr wy) (fun i _=>ol.length - (intOf i).toNat)
        case atStart=>exact ⟨0,Nat.zero_le _,rfl,Below.refl _ _⟩
        case round =>
          obtain ⟨wo,rfl⟩:∃ wo:World,wo=wr:=⟨_,rfl⟩
          obtain ⟨j,hj,rfl,hbj⟩:=hrel
          have HBJ:=hid hbj
          clear hbj
          by_cases hlj:j<ol.length
          · have hje:j<(ol).length:=by have:=HLE.out;omega
            obtain ⟨b',off',e',hbl',hrg'⟩:=(vw_of_own HOWN.out).range (k:=3) (fun x _=>encRcd_len x) (by omega) j hje
            have HRJ:=hid (rangeAt_below hrg' HBJ.out)
            have hcn:=can_120 (HFC.out _ (List.getElem_mem hje)).1 (HFC.out _ (List.getElem_mem hje)).2
            have hcl:=(HFR.out _ (List.getElem_mem hje)).1.2.1
            clear hrg'
            obtain ⟨r,hr⟩:∃ r,(ol)[j]=r:=⟨_,rfl⟩
            rw [hr] at HRJ hcn hcl
            clear hr
            obtain ⟨jy,jc,⟨ja,jn,jcp,jl⟩⟩:=r
            dsimp only [encRcd] at HRJ hcn hcl
            have hjn:¬ (120:Int)<(jn:Int):=by omega
            cases e'
            go_wp2_with (first
              | (refine wpList_load_mid rfl 47 (.tmp 145) rfl b' (off'+j * 3) rfl [.int .i64 jy,.int .i64 jc,.slice ja jn jcp] _ HRJ.out Tryz.underlying47 rfl rdInfo ?_)
              | (refine st_new rfl 47 (.tmp 17) (.tmp 146) rfl #[.int .i64 jy,.int .i64 jc,.slice ja jn jcp] _ _ rfl rfl rdInfo rfl (rd_one _ _ _ _ _) ?_))
            go_roundw
            case rel=>exact ⟨j+1,by omega,by go_num,(by (repeat (with_reducible first | exact HBJ.out | exact Below.refl _ _ | refine bdr ?_ | refine bdn ?_ _ | refine bal ?_ _)))⟩
            case measure=>simp [intOf];omega
          · go_wp2
            go_ret2
            exact ⟨⟨av,ol.length,cv,ol⟩,rfl,own_keep (own_base HOWN.out HBS.out) HBJ.out,(by first | exact HLE.out | (dsimp only;omega) | rfl),HAD.out,fun r hr=>(HFR.out r hr).below HBJ.out,HFC.out,btr HFB.out HBJ.out⟩
      · have hnm0:0<nm:=by omega
        obtain ⟨N,hN⟩:∃ N,N=ol.length:=⟨_,rfl⟩
        rw [← hN] at HOWN hol hcap ⊢
        have HNN:=hid hN
        clear hN
        have HFR:RowKit.Hid (∀ r ∈ ol,ScOk2 wr r.s):=fun r hr=>(HIN.out.rows r hr).1
        have HFC:=hid HIN.out.can
        have HBS:=hid HB2.out.size
        have HFB:=HBW
        have HMC:RowKit.Hid (IsCan (mineS (l.map RcdM.pl) year crop (inRc gl)) lm):=by have:=HIN.out.mcan;rw [htk] at this;exact this
        have HPU:RowKit.Hid (HPut (l.map RcdM.pl) year crop (inRc gl) (ol.map RcdM.pl)):=by have:=HIN.out.put;rw [htk] at this;exact this
        have HMB:=hid (mine_board (l:=l) (year:=year) (crop:=crop) HGB.out fun r hr=>(HR.out.can r hr).2)
        have hlm:lm.length=nm:=HIN.out.mok.1.2.1
        go_wp2
        rename_i K2 hK2 K3 hK3
        have TAIL:RowKit.Hid (∀ (fa:Option Addr) (fn fc:Nat) (fl:List RcdM) (wx:World) (x0 x1 x2 x3 x4 x5 x6 x7 x8 x9 x10 x11 x13 x14 x15 x16 x17 x18 x19 x20 x21 x22 x23 x24 x25 x26 x27 x28 x29 x30 x31 x32 x33 x34 x35 x36 x37 x38 x39 x40 x41 x42 x43 x44 x45 x46 x47 x48 x49 x50 x51 x52 x53 x54 x55 x56 x57 x58 x59 x60 x61 x62 x63 x64 x65 x66 x67 x68 x69 x70 x71 x72 x73 x74 x75 x76 x77 x78 x79 x80 x81 x82 x83 x84 x85 x86 x87 x88 x89 x90 x91 x92 x93 x94 x95 x96 x97 x98 x99 x100 x101 x102 x103 x104 x105 x106 x107 x108 x109 x110 x111 x112 x113 x114 x115 x116 x117 x118 x119 x120 x121 x122 x123 x124 x125 x126 x127 x128 x129 x130 x131 x132 x133 x134 x135 x136 x137 x138 x139 x140 x141 x142 x143 x144 x145 x146 x147 x148 x149 x150 x151 x152 x153:Value),fn≤120→wx.ownsRow w.heap.size 47 3 (.slice fa fn fc) fn (cellsOf encRcd fl)→fl.length=fn→(∀ r ∈ fl,ScOk2 wx r.s)→(∀ r ∈ fl,IsCan (inRc r.s.l) r.s.l∧Board (inRc r.s.l))→HAdded (l.map RcdM.pl) year crop (inRc gl) (fl.map RcdM.pl)→Below w.heap.size w wx→K2 ⟨#[x0,x1,x2,x3,x4,x5,x6,x7,x8,x9,x10,x11,.slice fa fn fc,x13,x14,x15,x16,x17,x18,x19,x20,x21,x22,x23,x24,x25,x26,x27,x28,x29,x30,x31,x32,x33,x34,x35,x36,x37,x38,x39,x40,x41,x42,x43,x44,x45,x46,x47,x48,x49,x50,x51,x52,x53,x54,x55,x56,x57,x58,x59,x60,x61,x62,x63,x64,x65,x66,x67,x68,x69,x70,x71,x72,x73,x74,x75,x76,x77,x78,x79,x80,x81,x82,x83,x84,x85,x86,x87,x88,x89,x90,x91,x92,x93,x94,x95,x96,x97,x98,x99,x100,x101,x102,x103,x104,x105,x106,x107,x108,x109,x110,x111,x112,x113,x114,x115,x116,x117,x118,x119,x120,x121,x122,x123,x124,x125,x126,x127,x128,x129,x130,x131,x132,x133,x134,x135,x136,x137,x138,x139,x140,x141,x142,x143,x144,x145,x146,x147,x148,x149,x150,x151,x152,x153],[]⟩ wx):=by
          intro fa fn fc fl wx x0 x1 x2 x3 x4 x5 x6 x7 x8 x9 x10 x11 x13 x14 x15 x16 x17 x18 x19 x20 x21 x22 x23 x24 x25 x26 x27 x28 x29 x30 x31 x32 x33 x34 x35 x36 x37 x38 x39 x40 x41 x42 x43 x44 x45 x46 x47 x48 x49 x50 x51 x52 x53 x54 x55 x56 x57 x58 x59 x60 x61 x62 x63 x64 x65 x66 x67 x68 x69 x70 x71 x72 x73 x74 x75 x76 x77 x78 x79 x80 x81 x82 x83 x84 x85 x86 x87 x88 x89 x90 x91 x92 x93 x94 x95 x96 x97 x98 x99 x100 x101 x102 x103 x104 x105 x106 x107 x108 x109 x110 x111 x112 x113 x114 x115 x116 x117 x118 x119 x120 x121 x122 x123 x124 x125 x126 x127 x128 x129 x130 x131 x132 x133 x134 x135 x136 x137 x138 x139 x140 x141 x142 x143 x144 x145 x146 x147 x148 x149 x150 x151 x152 x153 hfn hown hle hfr hfc had hfb
          have HFO:=hid hown;have HLE:=hid hle;have HFR:=hid hfr;have HFC:=hid hfc;have HAD:=hid had;have HFB:=hid hfb
          clear hown hle hfr hfc had hfb
          refine hK2 _ _ ?_
          go_wp2
          go_loopw [143] (fun i wy=>∃ j:Nat,j≤fn∧i=.int .i64 j∧Below wx.heap.size wx wy) (fun i _=>fn - (intOf i).toNat)
          case atStart=>exact ⟨0,Nat.zero_le _,rfl,Below.refl _ _⟩
          case round =>
            obtain ⟨wo,rfl⟩:∃ wo:World,wo=wr:=⟨_,rfl⟩
            obtain ⟨j,hj,rfl,hbj⟩:=hrel
            have HBJ:=hid hbj
            clear hbj
            by_cases hlj:j<fn
            · have hje:j<(fl).length:=by have:=HLE.out;omega
              obtain ⟨b',off',e',hbl',hrg'⟩:=(vw_of_own HFO.out).range (k:=3) (fun x _=>encRcd_len x) (by omega) j hje
              have HRJ:=hid (rangeAt_below hrg' HBJ.out)
              have hcn:=can_120 (HFC.out _ (List.getElem_mem hje)).1 (HFC.out _ (List.getElem_mem hje)).2
              have hcl:=(HFR.out _ (List.getElem_mem hje)).1.2.1
              clear hrg'
              obtain ⟨r,hr⟩:∃ r,(fl)[j]=r:=⟨_,rfl⟩
              rw [hr] at HRJ hcn hcl
              clear hr
              obtain ⟨jy,jc,⟨ja,jn,jcp,jl⟩⟩:=r
              dsimp only [encRcd] at HRJ hcn hcl
              have hjn:¬ (120:Int)<(jn:Int):=by omega
              cases e'
              go_wp2_with (first
                | (refine wpList_load_mid rfl 47 (.tmp 145) rfl b' (off'+j * 3) rfl [.int .i64 jy,.int .i64 jc,.slice ja jn jcp] _ HRJ.out Tryz.underlying47 rfl rdInfo ?_)
                | (refine st_new rfl 47 (.tmp 17) (.tmp 146) rfl #[.int .i64 jy,.int .i64 jc,.slice ja jn jcp] _ _ rfl rfl rdInfo rfl (rd_one _ _ _ _ _) ?_))
              go_roundw
              case rel=>exact ⟨j+1,by omega,by go_num,(by (repeat (with_reducible first | exact HBJ.out | exact Below.refl _ _ | refine bdr ?_ | refine bdn ?_ _ | refine bal ?_ _)))⟩
              case measure=>simp [intOf];omega
            · go_wp2
              go_ret2
              exact ⟨⟨fa,fn,fc,fl⟩,rfl,own_keep (HFO.out) HBJ.out,(by first | exact HLE.out | (dsimp only;omega) | rfl),HAD.out,fun r hr=>(HFR.out r hr).below HBJ.out,HFC.out,btr HFB.out HBJ.out⟩
        go_loopw [15] (fun i wx=>∃ j:Nat,j≤N∧i=.int .i64 j∧(∀ q (h:q<ol.length),q<j→(ol[q].year<year∨(ol[q].year=year∧ol[q].crop<crop)))∧Below wr.heap.size wr wx) (fun i _=>N - (intOf i).toNat)
        case atStart=>exact ⟨0,Nat.zero_le _,rfl,(fun q _ h=>absurd h (Nat.not_lt_zero q)),Below.refl _ _⟩
        case round =>
          obtain ⟨wo,rfl⟩:∃ wo:World,wo=wr:=⟨_,rfl⟩
          obtain ⟨k,hk,rfl,hno,hbj⟩:=hrel
          have NO:=hid hno;have HBJ:=hid hbj
          have HOO:=hid (own_keep HOWN.out hbj)
          have HVO:=hid (vw_of_own HOO.out)
          have x0:wo.cell? ⟨w.heap.size,0,none⟩=some (.slice ga gn gc):=(BR.out.below hbj).cell 0
          have y8:w.heap.size<wo.heap.size:=(BR.out.below hbj).lt
          clear hno hbj r0
          by_cases hlj:k<N
          · have hke:k<ol.length:=by have:=HNN.out;omega
            obtain ⟨b',off',e',hbl',hrg'⟩:=HVO.out.range (k:=3) (fun x _=>encRcd_len x) (by omega) k hke
            have c0:wo.cell? ⟨b',off'+k * 3,none⟩=some (.int .i64 ol[k].year):=hrg' 0 _ rfl
            have c1:wo.cell? ⟨b',off'+k * 3+1,none⟩=some (.int .i64 ol[k].crop):=hrg' 1 _ rfl
            clear hrg'
            obtain ⟨oy,hoy⟩:∃ oy,ol[k].year=oy:=⟨_,rfl⟩
            obtain ⟨oc,hoc⟩:∃ oc,ol[k].crop=oc:=⟨_,rfl⟩
            rw [hoy] at c0
            rw [hoc] at c1
            have HOY:=hid hoy;have HOC:=hid hoc
            clear hoy hoc
            cases e'
            have i0:(0:Int)≤(k:Int):=by omega
            have hcs:oy<year∨(oy=year∧oc<crop)∨(oy=year∧crop≤oc)∨year<oy:=by omega
            rcases hcs with h1 | ⟨h0,h2⟩ | ⟨h0,h2⟩ | h1
            · have d1:decide (oy<year)=true:=decide_eq_true h1
              go_wp2
              go_roundw
              case rel =>
                refine ⟨k+1,by omega,by go_num,fun q hq hqk=>?_,HBJ.out⟩
                by_cases e:q=k
                · subst e;left;rw [HOY.out];exact h1
                · exact NO.out q hq (by omega)
              case measure=>simp [intOf];omega
            · have d1:decide (oy<year)=false:=decide_eq_false (by omega)
              have d3:((oy:Int) == year)=true:=by simpa using h0
              have d2:decide (oc<crop)=true:=decide_eq_true h2
              go_wp2
              go_roundw
              case rel =>
                refine ⟨k+1,by omega,by go_num,fun q hq hqk=>?_,HBJ.out⟩
                by_cases e:q=k
                · subst e;right;exact ⟨HOY.out.trans h0,by rw [HOC.out];exact h2⟩
                · exact NO.out q hq (by omega)
              case measure=>simp [intOf];omega
            · have d1:decide (oy<year)=false:=decide_eq_false (by omega)
              have d3:((oy:Int) == year)=true:=by simpa using h0
              have d2:decide (oc<crop)=false:=decide_eq_false (by omega)
              have HNL:RowKit.Hid (¬ (oy<year∨(oy=year∧oc<crop))):=by show ¬ _;omega
              have VP:=hid (HVO.out.take (k * 3))
              have NP:RowKit.Hid (some (⟨b',off',none⟩:Addr)=none→k=0):=fun h=>by cases h
              have LP:RowKit.Hid (((cellsOf encRcd ol).take (k * 3)).length=k * 3):=by show ((cellsOf encRcd ol).take (k * 3)).length=_;have:=HNN.out;rw [List.length_take,cellsOf_length encRcd_len];omega
              have LS:RowKit.Hid (((cellsOf encRcd ol).drop (k * 3)).length=(N - k) * 3):=by show ((cellsOf encRcd ol).drop (k * 3)).length=_;have:=HNN.out;rw [List.length_drop,cellsOf_length encRcd_len];omega
              have OX:RowKit.Hid (OneC (cellsOf encRcd ol)):=oneC_cells oneC_rd ol
              have OS:RowKit.Hid (OneC ((cellsOf encRcd ol).drop (k * 3))):=fun u hu=>OX.out u (List.mem_of_mem_drop hu)
              have VS:=hid (HVO.out.drop (k * 3))
              have NS:RowKit.Hid (some (⟨b',off'+k * 3,none⟩:Addr)=none→N - k=0):=fun h=>by cases h
              have hck:¬ cv=k:=by omega
              have i2:(k:Int)≤(cv:Int):=by omega
              have i3:(k:Int)≤(N:Int):=by omega
              have HAD:RowKit.Hid (HAdded (l.map RcdM.pl) year crop (inRc gl) ((ol.take k++[(⟨year,crop,⟨am,nm,cm,lm⟩⟩:RcdM)]++ol.drop k).map RcdM.pl)):=by
                have hp:=HPU.out
                rw [← List.take_append_drop k ol,List.map_append] at hp
                rw [List.map_append,List.map_append]
                refine hp.ins (by rw [List.length_map];have:=HN.out;omega) HR.out.hist rfl rfl (fun x y=>HMC.out.iff x y) (radd_ok (s:=⟨am,nm,cm,lm⟩) ⟨y1,y2⟩ ⟨q1,q2⟩ HMC.out HMB.out fun e=>by dsimp only at e;rw [e] at hlm;simp at hlm;omega) (fun a ha=>?_) fun b hb=>?_
                · obtain ⟨r,hr,rfl⟩:=List.mem_map.1 ha
                  obtain ⟨q,hq,rfl⟩:=List.getElem_of_mem hr
                  rw [List.length_take] at hq
                  rw [List.getElem_take]
                  exact NO.out q (by have:=HNN.out;omega) (by omega)
                · rw [List.head?_map] at hb
                  obtain ⟨r,hr,rfl⟩:=Option.map_eq_some_iff.1 hb
                  rw [List.head?_drop] at hr
                  rw [List.getElem?_eq_getElem hke] at hr
                  cases hr
                  show ¬ (ol[k].year<year∨(ol[k].year=year∧ol[k].crop<crop))
                  rw [HOY.out,HOC.out];exact HNL.out
              go_wp2
              go_region_held3 (fun w'=>w'.cell? ⟨w.heap.size,0,none⟩=some (.slice ga gn gc)) (first | exact x0 | exact ka x0 | exact bc1 B3 x0 | exact bc1 B2 x0 | exact bc1 B1 x0 | exact ka (bc1 B1 x0) | exact bc1 (bal B1 _) x0 | exact bc1 (bal (bdr B1) _) x0 | simp [go_sem, *]) (first
                            | (refine app_step elRd (by rfl) _ _ (by rfl) wo.heap.size (.slice (some ⟨wo.heap.size,0,none⟩) 0 0) 0 [] (by rfl) (own_lit0 (t:=47) (by first | exact Blk.fresh (by simp) | exact (Blk.fresh (by simp)).drew | exact (Blk.fresh (by simp)).alloc _ | exact ((Blk.fresh (by simp)).alloc _).drew) (by omega)) _ k _ ((cellsOf encRcd ol).take (k * 3)) (by rfl) (VP.out.below (by (repeat (with_reducible first | exact Below.refl _ _ | refine bdr ?_ | refine bdn ?_ _ | refine bal ?_ _)))) NP.out LP.out (oneC_take OX.out _) (by omega) (by (simp <;> omega)) ?_;intro v1 w1 hown1 hg1 hat1;have K1:=fun g cs (h:Blk _ g 47 cs) (hne:g ≠ wo.heap.size)=>Eq.trans (hg1.block g (Blk.lt h) (by simpa [Value.ownBlock] using hne)) h;have B1:Below wo.heap.size wo w1:=Below.grown (by (repeat (with_reducible first | exact Below.refl _ _ | refine bdr ?_ | refine bdn ?_ _ | refine bal ?_ _))) hg1 (by (simp <;> omega)) (by intro q hq;simp [Value.ownBlock] at hq;omega);have z1:=B1.size)
                            | (refine app_step elRd (by rfl) _ _ (by rfl) wo.heap.size (.slice (some ⟨(wo.heap.size+1),0,none⟩) 0 0) 0 [] (by rfl) (own_lit0 (t:=47) (by first | exact Blk.fresh (by simp) | exact (Blk.fresh (by simp)).drew | exact (Blk.fresh (by simp)).alloc _ | exact ((Blk.fresh (by simp)).alloc _).drew) (by omega)) _ k _ ((cellsOf encRcd ol).take (k * 3)) (by rfl) (VP.out.below (by (repeat (with_reducible first | exact Below.refl _ _ | refine bdr ?_ | refine bdn ?_ _ | refine bal ?_ _)))) NP.out LP.out (oneC_take OX.out _) (by omega) (by (simp <;> omega)) ?_;intro v1 w1 hown1 hg1 hat1;have K1:=fun g cs (h:Blk _ g 47 cs) (hne:g ≠ (wo.heap.size+1))=>Eq.trans (hg1.block g (Blk.lt h) (by simpa [Value.ownBlock] using hne)) h;have B1:Below wo.heap.size wo w1:=Below.grown (by (repeat (with_reducible first | exact Below.refl _ _ | refine bdr ?_ | refine bdn ?_ _ | refine bal ?_ _))) hg1 (by (simp <;> omega)) (by intro q hq;simp [Value.ownBlock] at hq;omega);have z1:=B1.size)
                            | (refine app_step elRd (by rfl) _ _ (by rfl) wo.heap.size v1 (0+k) _ (by rfl) (by first | exact hown1 | exact hown1.alloc _) _ 1 _ [.int .i64 year,.int .i64 crop,.slice am nm cm] (by rfl) (by first | exact vw_blk (Blk.fresh (by simp)) | exact vw_blk (K1 (wo.heap.size+1) (List.toArray [.int .i64 year,.int .i64 crop,.slice am nm cm]) (by first | exact Blk.fresh (by simp) | exact (Blk.fresh (by simp)).drew | exact (Blk.fresh (by simp)).alloc _ | exact ((Blk.fresh (by simp)).alloc _).drew) (by omega)) | exact vw_blk (K1 wo.heap.size (List.toArray [.int .i64 year,.int .i64 crop,.slice am nm cm]) (by first | exact Blk.fresh (by simp) | exact (Blk.fresh (by simp)).drew | exact (Blk.fresh (by simp)).alloc _ | exact ((Blk.fresh (by simp)).alloc _).drew) (by omega))) (by simp) (by rfl) (oneC_rd ⟨year,crop,⟨am,nm,cm,lm⟩⟩) (by omega) (by first | exact z1 | (simp;omega)) ?_;intro v2 w2 hown2 hg2 hat2;have B2:Below wo.heap.size wo w2:=Below.grown (by (repeat (with_reducible first | exact B1 | exact Below.refl _ _ | refine bdr ?_ | refine bdn ?_ _ | refine bal ?_ _))) hg2 (by first | exact z1 | (simp;omega)) (by intro q hq;exact (hown1.lt q hq).1);have z2:=B2.size)
                            | (refine app_step elRd (by rfl) _ _ (by rfl) wo.heap.size v2 (0+k+1) _ (by rfl) hown2 _ (N - k) _ ((cellsOf encRcd ol).drop (k * 3)) (by rfl) (VS.out.below B2) NS.out LS.out OS.out (by omega) z2 ?_;intro v3 w3 hown3 hg3 hat3;have B3:Below wo.heap.size wo w3:=Below.grown B2 hg3 z2 (by intro q hq;exact (hown2.lt q hq).1);obtain ⟨a3,cap3,rfl,q31,q32,q33⟩:=own_form hown3))
              all_goals
                (try simp only [Nat.zero_add,Nat.add_zero] at hown3)
                exact TAIL.out _ _ _ (ol.take k++[(⟨year,crop,⟨am,nm,cm,lm⟩⟩:RcdM)]++ol.drop k) _ _ _ _ _ _ _ _ _ _ _ _ _ _ _ _ _ _ _ _ _ _ _ _ _ _ _ _ _ _ _ _ _ _ _ _ _ _ _ _ _ _ _ _ _ _ _ _ _ _ _ _ _ _ _ _ _ _ _ _ _ _ _ _ _ _ _ _ _ _ _ _ _ _ _ _ _ _ _ _ _ _ _ _ _ _ _ _ _ _ _ _ _ _ _ _ _ _ _ _ _ _ _ _ _ _ _ _ _ _ _ _ _ _ _ _ _ _ _ _ _ _ _ _ _ _ _ _ _ _ _ _ _ _ _ _ _ _ _ _ _ _ _ _ _ _ _ _ _ _ _ _ _ _ (by omega) (own_ins hown3 (by omega)) (ins_len HNN.out (by omega) (by omega)) (ins_all (fun r hr=>(HFR.out r hr).below (btr HBJ.out B3)) (HIN.out.mok.below (btr HBJ.out B3))) (ins_all HFC.out ⟨HMC.out.self,fun x y h=>HMB.out x y ((HMC.out.iff x y).1 h)⟩) HAD.out (btr (btr HFB.out HBJ.out) B3)
            · have d1:decide (oy<year)=false:=decide_eq_false (by omega)
              have d2:((oy:Int) == year)=false:=by simp;omega
              have HNL:RowKit.Hid (¬ (oy<year∨(oy=year∧oc<crop))):=by show ¬ _;omega
              have VP:=hid (HVO.out.take (k * 3))
              have NP:RowKit.Hid (some (⟨b',off',none⟩:Addr)=none→k=0):=fun h=>by cases h
              have LP:RowKit.Hid (((cellsOf encRcd ol).take (k * 3)).length=k * 3):=by show ((cellsOf encRcd ol).take (k * 3)).length=_;have:=HNN.out;rw [List.length_take,cellsOf_length encRcd_len];omega
              have LS:RowKit.Hid (((cellsOf encRcd ol).drop (k * 3)).length=(N - k) * 3):=by show ((cellsOf encRcd ol).drop (k * 3)).length=_;have:=HNN.out;rw [List.length_drop,cellsOf_length encRcd_len];omega
              have OX:RowKit.Hid (OneC (cellsOf encRcd ol)):=oneC_cells oneC_rd ol
              have OS:RowKit.Hid (OneC ((cellsOf encRcd ol).drop (k * 3))):=fun u hu=>OX.out u (List.mem_of_mem_drop hu)
              have VS:=hid (HVO.out.drop (k * 3))
              have NS:RowKit.Hid (some (⟨b',off'+k * 3,none⟩:Addr)=none→N - k=0):=fun h=>by cases h
              have hck:¬ cv=k:=by omega
              have i2:(k:Int)≤(cv:Int):=by omega
              have i3:(k:Int)≤(N:Int):=by omega
              have HAD:RowKit.Hid (HAdded (l.map RcdM.pl) year crop (inRc gl) ((ol.take k++[(⟨year,crop,⟨am,nm,cm,lm⟩⟩:RcdM)]++ol.drop k).map RcdM.pl)):=by
                have hp:=HPU.out
                rw [← List.take_append_drop k ol,List.map_append] at hp
                rw [List.map_append,List.map_append]
                refine hp.ins (by rw [List.length_map];have:=HN.out;omega) HR.out.hist rfl rfl (fun x y=>HMC.out.iff x y) (radd_ok (s:=⟨am,nm,cm,lm⟩) ⟨y1,y2⟩ ⟨q1,q2⟩ HMC.out HMB.out fun e=>by dsimp only at e;rw [e] at hlm;simp at hlm;omega) (fun a ha=>?_) fun b hb=>?_
                · obtain ⟨r,hr,rfl⟩:=List.mem_map.1 ha
                  obtain ⟨q,hq,rfl⟩:=List.getElem_of_mem hr
                  rw [List.length_take] at hq
                  rw [List.getElem_take]
                  exact NO.out q (by have:=HNN.out;omega) (by omega)
                · rw [List.head?_map] at hb
                  obtain ⟨r,hr,rfl⟩:=Option.map_eq_some_iff.1 hb
                  rw [List.head?_drop] at hr
                  rw [List.getElem?_eq_getElem hke] at hr
                  cases hr
                  show ¬ (ol[k].year<year∨(ol[k].year=year∧ol[k].crop<crop))
                  rw [HOY.out,HOC.out];exact HNL.out
              go_wp2
              go_region_held3 (fun w'=>w'.cell? ⟨w.heap.size,0,none⟩=some (.slice ga gn gc)) (first | exact x0 | exact ka x0 | exact bc1 B3 x0 | exact bc1 B2 x0 | exact bc1 B1 x0 | exact ka (bc1 B1 x0) | exact bc1 (bal B1 _) x0 | exact bc1 (bal (bdr B1) _) x0 | simp [go_sem, *]) (first
                            | (refine app_step elRd (by rfl) _ _ (by rfl) wo.heap.size (.slice (some ⟨wo.heap.size,0,none⟩) 0 0) 0 [] (by rfl) (own_lit0 (t:=47) (by first | exact Blk.fresh (by simp) | exact (Blk.fresh (by simp)).drew | exact (Blk.fresh (by simp)).alloc _ | exact ((Blk.fresh (by simp)).alloc _).drew) (by omega)) _ k _ ((cellsOf encRcd ol).take (k * 3)) (by rfl) (VP.out.below (by (repeat (with_reducible first | exact Below.refl _ _ | refine bdr ?_ | refine bdn ?_ _ | refine bal ?_ _)))) NP.out LP.out (oneC_take OX.out _) (by omega) (by (simp <;> omega)) ?_;intro v1 w1 hown1 hg1 hat1;have K1:=fun g cs (h:Blk _ g 47 cs) (hne:g ≠ wo.heap.size)=>Eq.trans (hg1.block g (Blk.lt h) (by simpa [Value.ownBlock] using hne)) h;have B1:Below wo.heap.size wo w1:=Below.grown (by (repeat (with_reducible first | exact Below.refl _ _ | refine bdr ?_ | refine bdn ?_ _ | refine bal ?_ _))) hg1 (by (simp <;> omega)) (by intro q hq;simp [Value.ownBlock] at hq;omega);have z1:=B1.size)
                            | (refine app_step elRd (by rfl) _ _ (by rfl) wo.heap.size (.slice (some ⟨(wo.heap.size+1),0,none⟩) 0 0) 0 [] (by rfl) (own_lit0 (t:=47) (by first | exact Blk.fresh (by simp) | exact (Blk.fresh (by simp)).drew | exact (Blk.fresh (by simp)).alloc _ | exact ((Blk.fresh (by simp)).alloc _).drew) (by omega)) _ k _ ((cellsOf encRcd ol).take (k * 3)) (by rfl) (VP.out.below (by (repeat (with_reducible first | exact Below.refl _ _ | refine bdr ?_ | refine bdn ?_ _ | refine bal ?_ _)))) NP.out LP.out (oneC_take OX.out _) (by omega) (by (simp <;> omega)) ?_;intro v1 w1 hown1 hg1 hat1;have K1:=fun g cs (h:Blk _ g 47 cs) (hne:g ≠ (wo.heap.size+1))=>Eq.trans (hg1.block g (Blk.lt h) (by simpa [Value.ownBlock] using hne)) h;have B1:Below wo.heap.size wo w1:=Below.grown (by (repeat (with_reducible first | exact Below.refl _ _ | refine bdr ?_ | refine bdn ?_ _ | refine bal ?_ _))) hg1 (by (simp <;> omega)) (by intro q hq;simp [Value.ownBlock] at hq;omega);have z1:=B1.size)
                            | (refine app_step elRd (by rfl) _ _ (by rfl) wo.heap.size v1 (0+k) _ (by rfl) (by first | exact hown1 | exact hown1.alloc _) _ 1 _ [.int .i64 year,.int .i64 crop,.slice am nm cm] (by rfl) (by first | exact vw_blk (Blk.fresh (by simp)) | exact vw_blk (K1 (wo.heap.size+1) (List.toArray [.int .i64 year,.int .i64 crop,.slice am nm cm]) (by first | exact Blk.fresh (by simp) | exact (Blk.fresh (by simp)).drew | exact (Blk.fresh (by simp)).alloc _ | exact ((Blk.fresh (by simp)).alloc _).drew) (by omega)) | exact vw_blk (K1 wo.heap.size (List.toArray [.int .i64 year,.int .i64 crop,.slice am nm cm]) (by first | exact Blk.fresh (by simp) | exact (Blk.fresh (by simp)).drew | exact (Blk.fresh (by simp)).alloc _ | exact ((Blk.fresh (by simp)).alloc _).drew) (by omega))) (by simp) (by rfl) (oneC_rd ⟨year,crop,⟨am,nm,cm,lm⟩⟩) (by omega) (by first | exact z1 | (simp;omega)) ?_;intro v2 w2 hown2 hg2 hat2;have B2:Below wo.heap.size wo w2:=Below.grown (by (repeat (with_reducible first | exact B1 | exact Below.refl _ _ | refine bdr ?_ | refine bdn ?_ _ | refine bal ?_ _))) hg2 (by first | exact z1 | (simp;omega)) (by intro q hq;exact (hown1.lt q hq).1);have z2:=B2.size)
                            | (refine app_step elRd (by rfl) _ _ (by rfl) wo.heap.size v2 (0+k+1) _ (by rfl) hown2 _ (N - k) _ ((cellsOf encRcd ol).drop (k * 3)) (by rfl) (VS.out.below B2) NS.out LS.out OS.out (by omega) z2 ?_;intro v3 w3 hown3 hg3 hat3;have B3:Below wo.heap.size wo w3:=Below.grown B2 hg3 z2 (by intro q hq;exact (hown2.lt q hq).1);obtain ⟨a3,cap3,rfl,q31,q32,q33⟩:=own_form hown3))
              all_goals
                (try simp only [Nat.zero_add,Nat.add_zero] at hown3)
                exact TAIL.out _ _ _ (ol.take k++[(⟨year,crop,⟨am,nm,cm,lm⟩⟩:RcdM)]++ol.drop k) _ _ _ _ _ _ _ _ _ _ _ _ _ _ _ _ _ _ _ _ _ _ _ _ _ _ _ _ _ _ _ _ _ _ _ _ _ _ _ _ _ _ _ _ _ _ _ _ _ _ _ _ _ _ _ _ _ _ _ _ _ _ _ _ _ _ _ _ _ _ _ _ _ _ _ _ _ _ _ _ _ _ _ _ _ _ _ _ _ _ _ _ _ _ _ _ _ _ _ _ _ _ _ _ _ _ _ _ _ _ _ _ _ _ _ _ _ _ _ _ _ _ _ _ _ _ _ _ _ _ _ _ _ _ _ _ _ _ _ _ _ _ _ _ _ _ _ _ _ _ _ _ _ _ (by omega) (own_ins hown3 (by omega)) (ins_len HNN.out (by omega) (by omega)) (ins_all (fun r hr=>(HFR.out r hr).below (btr HBJ.out B3)) (HIN.out.mok.below (btr HBJ.out B3))) (ins_all HFC.out ⟨HMC.out.self,fun x y h=>HMB.out x y ((HMC.out.iff x y).1 h)⟩) HAD.out (btr (btr HFB.out HBJ.out) B3)
          · obtain rfl:k=N:=by omega
            have VP:=hid (HVO.out.take (k * 3))
            have NP:RowKit.Hid (av=none→k=0):=fun e=>by rcases HAV.out with ⟨-,h,-⟩ | ⟨g,h,-⟩;(have:=HNN.out;omega);(rw [e] at h;cases h)
            have LP:RowKit.Hid (((cellsOf encRcd ol).take (k * 3)).length=k * 3):=by show ((cellsOf encRcd ol).take (k * 3)).length=_;have:=HNN.out;rw [List.length_take,cellsOf_length encRcd_len];omega
            have LS:RowKit.Hid (((cellsOf encRcd ol).drop (k * 3)).length=0 * 3):=by show ((cellsOf encRcd ol).drop (k * 3)).length=_;have:=HNN.out;rw [List.length_drop,cellsOf_length encRcd_len];omega
            have OX:RowKit.Hid (OneC (cellsOf encRcd ol)):=oneC_cells oneC_rd ol
            have OS:RowKit.Hid (OneC ((cellsOf encRcd ol).drop (k * 3))):=fun u hu=>OX.out u (List.mem_of_mem_drop hu)
            have VS0:RowKit.Hid (∀ a,Vw wo a ((cellsOf encRcd ol).drop (k * 3))):=fun a=>by
              have e:(cellsOf encRcd ol).drop (k * 3)=[]:=List.eq_nil_of_length_eq_zero (by simpa using LS.out)
              rw [e];exact Vw.nil _ _
            have i0:(0:Int)≤(k:Int):=by omega
            have i2:(k:Int)≤(cv:Int):=by omega
            have HAD:RowKit.Hid (HAdded (l.map RcdM.pl) year crop (inRc gl) ((ol.take k++[(⟨year,crop,⟨am,nm,cm,lm⟩⟩:RcdM)]++ol.drop k).map RcdM.pl)):=by
              have hp:=HPU.out
              rw [← List.take_append_drop k ol,List.map_append] at hp
              rw [List.map_append,List.map_append]
              refine hp.ins (by rw [List.length_map];have:=HN.out;omega) HR.out.hist rfl rfl (fun x y=>HMC.out.iff x y) (radd_ok (s:=⟨am,nm,cm,lm⟩) ⟨y1,y2⟩ ⟨q1,q2⟩ HMC.out HMB.out fun e=>by dsimp only at e;rw [e] at hlm;simp at hlm;omega) (fun a ha=>?_) fun b hb=>?_
              · obtain ⟨r,hr,rfl⟩:=List.mem_map.1 ha
                obtain ⟨q,hq,rfl⟩:=List.getElem_of_mem hr
                rw [List.length_take] at hq
                rw [List.getElem_take]
                exact NO.out q (by have:=HNN.out;omega) (by omega)
              · rw [List.head?_map] at hb
                obtain ⟨r,hr,rfl⟩:=Option.map_eq_some_iff.1 hb
                rw [List.head?_drop] at hr
                rw [List.getElem?_eq_none (by have:=HNN.out;omega)] at hr
                cases hr
            by_cases hck:cv=k
            · obtain rfl:k=cv:=hck.symm
              go_wp2
              go_region_held3 (fun w'=>w'.cell? ⟨w.heap.size,0,none⟩=some (.slice ga gn gc)) (first | exact x0 | exact ka x0 | exact bc1 B3 x0 | exact bc1 B2 x0 | exact bc1 B1 x0 | exact ka (bc1 B1 x0) | exact bc1 (bal B1 _) x0 | exact bc1 (bal (bdr B1) _) x0 | simp [go_sem, *]) (first
                            | (refine app_step elRd (by rfl) _ _ (by rfl) wo.heap.size (.slice (some ⟨wo.heap.size,0,none⟩) 0 0) 0 [] (by rfl) (own_lit0 (t:=47) (by first | exact Blk.fresh (by simp) | exact (Blk.fresh (by simp)).drew | exact (Blk.fresh (by simp)).alloc _ | exact ((Blk.fresh (by simp)).alloc _).drew) (by omega)) _ k _ ((cellsOf encRcd ol).take (k * 3)) (by rfl) (VP.out.below (by (repeat (with_reducible first | exact Below.refl _ _ | refine bdr ?_ | refine bdn ?_ _ | refine bal ?_ _)))) NP.out LP.out (oneC_take OX.out _) (by omega) (by (simp <;> omega)) ?_;intro v1 w1 hown1 hg1 hat1;have K1:=fun g cs (h:Blk _ g 47 cs) (hne:g ≠ wo.heap.size)=>Eq.trans (hg1.block g (Blk.lt h) (by simpa [Value.ownBlock] using hne)) h;have B1:Below wo.heap.size wo w1:=Below.grown (by (repeat (with_reducible first | exact Below.refl _ _ | refine bdr ?_ | refine bdn ?_ _ | refine bal ?_ _))) hg1 (by (simp <;> omega)) (by intro q hq;simp [Value.ownBlock] at hq;omega);have z1:=B1.size)
                            | (refine app_step elRd (by rfl) _ _ (by rfl) wo.heap.size (.slice (some ⟨(wo.heap.size+1),0,none⟩) 0 0) 0 [] (by rfl) (own_lit0 (t:=47) (by first | exact Blk.fresh (by simp) | exact (Blk.fresh (by simp)).drew | exact (Blk.fresh (by simp)).alloc _ | exact ((Blk.fresh (by simp)).alloc _).drew) (by omega)) _ k _ ((cellsOf encRcd ol).take (k * 3)) (by rfl) (VP.out.below (by (repeat (with_reducible first | exact Below.refl _ _ | refine bdr ?_ | refine bdn ?_ _ | refine bal ?_ _)))) NP.out LP.out (oneC_take OX.out _) (by omega) (by (simp <;> omega)) ?_;intro v1 w1 hown1 hg1 hat1;have K1:=fun g cs (h:Blk _ g 47 cs) (hne:g ≠ (wo.heap.size+1))=>Eq.trans (hg1.block g (Blk.lt h) (by simpa [Value.ownBlock] using hne)) h;have B1:Below wo.heap.size wo w1:=Below.grown (by (repeat (with_reducible first | exact Below.refl _ _ | refine bdr ?_ | refine bdn ?_ _ | refine bal ?_ _))) hg1 (by (simp <;> omega)) (by intro q hq;simp [Value.ownBlock] at hq;omega);have z1:=B1.size)
                            | (refine app_step elRd (by rfl) _ _ (by rfl) wo.heap.size v1 (0+k) _ (by rfl) (by first | exact hown1 | exact hown1.alloc _) _ 1 _ [.int .i64 year,.int .i64 crop,.slice am nm cm] (by rfl) (by first | exact vw_blk (Blk.fresh (by simp)) | exact vw_blk (K1 (wo.heap.size+1) (List.toArray [.int .i64 year,.int .i64 crop,.slice am nm cm]) (by first | exact Blk.fresh (by simp) | exact (Blk.fresh (by simp)).drew | exact (Blk.fresh (by simp)).alloc _ | exact ((Blk.fresh (by simp)).alloc _).drew) (by omega)) | exact vw_blk (K1 wo.heap.size (List.toArray [.int .i64 year,.int .i64 crop,.slice am nm cm]) (by first | exact Blk.fresh (by simp) | exact (Blk.fresh (by simp)).drew | exact (Blk.fresh (by simp)).alloc _ | exact ((Blk.fresh (by simp)).alloc _).drew) (by omega))) (by simp) (by rfl) (oneC_rd ⟨year,crop,⟨am,nm,cm,lm⟩⟩) (by omega) (by first | exact z1 | (simp;omega)) ?_;intro v2 w2 hown2 hg2 hat2;have B2:Below wo.heap.size wo w2:=Below.grown (by (repeat (with_reducible first | exact B1 | exact Below.refl _ _ | refine bdr ?_ | refine bdn ?_ _ | refine bal ?_ _))) hg2 (by first | exact z1 | (simp;omega)) (by intro q hq;exact (hown1.lt q hq).1);have z2:=B2.size)
                            | (refine app_step elRd (by rfl) _ _ (by rfl) wo.heap.size v2 (0+k+1) _ (by rfl) hown2 _ 0 _ ((cellsOf encRcd ol).drop (k * 3)) (by rfl) ((VS0.out _).below B2) (fun _=>rfl) LS.out OS.out (by omega) z2 ?_;intro v3 w3 hown3 hg3 hat3;have B3:Below wo.heap.size wo w3:=Below.grown B2 hg3 z2 (by intro q hq;exact (hown2.lt q hq).1);obtain ⟨a3,cap3,rfl,q31,q32,q33⟩:=own_form hown3))
              all_goals
                (try simp only [Nat.zero_add,Nat.add_zero] at hown3)
                exact TAIL.out _ _ _ (ol.take k++[(⟨year,crop,⟨am,nm,cm,lm⟩⟩:RcdM)]++ol.drop k) _ _ _ _ _ _ _ _ _ _ _ _ _ _ _ _ _ _ _ _ _ _ _ _ _ _ _ _ _ _ _ _ _ _ _ _ _ _ _ _ _ _ _ _ _ _ _ _ _ _ _ _ _ _ _ _ _ _ _ _ _ _ _ _ _ _ _ _ _ _ _ _ _ _ _ _ _ _ _ _ _ _ _ _ _ _ _ _ _ _ _ _ _ _ _ _ _ _ _ _ _ _ _ _ _ _ _ _ _ _ _ _ _ _ _ _ _ _ _ _ _ _ _ _ _ _ _ _ _ _ _ _ _ _ _ _ _ _ _ _ _ _ _ _ _ _ _ _ _ _ _ _ _ _ (by omega) (own_ins hown3 (by omega)) (ins_len HNN.out (by omega) (by omega)) (ins_all (fun r hr=>(HFR.out r hr).below (btr HBJ.out B3)) (HIN.out.mok.below (btr HBJ.out B3))) (ins_all HFC.out ⟨HMC.out.self,fun x y h=>HMB.out x y ((HMC.out.iff x y).1 h)⟩) HAD.out (btr (btr HFB.out HBJ.out) B3)
            · skip
              go_wp2
              go_region_held3 (fun w'=>w'.cell? ⟨w.heap.size,0,none⟩=some (.slice ga gn gc)) (first | exact x0 | exact ka x0 | exact bc1 B3 x0 | exact bc1 B2 x0 | exact bc1 B1 x0 | exact ka (bc1 B1 x0) | exact bc1 (bal B1 _) x0 | exact bc1 (bal (bdr B1) _) x0 | simp [go_sem, *]) (first
                            | (refine app_step elRd (by rfl) _ _ (by rfl) wo.heap.size (.slice (some ⟨wo.heap.size,0,none⟩) 0 0) 0 [] (by rfl) (own_lit0 (t:=47) (by first | exact Blk.fresh (by simp) | exact (Blk.fresh (by simp)).drew | exact (Blk.fresh (by simp)).alloc _ | exact ((Blk.fresh (by simp)).alloc _).drew) (by omega)) _ k _ ((cellsOf encRcd ol).take (k * 3)) (by rfl) (VP.out.below (by (repeat (with_reducible first | exact Below.refl _ _ | refine bdr ?_ | refine bdn ?_ _ | refine bal ?_ _)))) NP.out LP.out (oneC_take OX.out _) (by omega) (by (simp <;> omega)) ?_;intro v1 w1 hown1 hg1 hat1;have K1:=fun g cs (h:Blk _ g 47 cs) (hne:g ≠ wo.heap.size)=>Eq.trans (hg1.block g (Blk.lt h) (by simpa [Value.ownBlock] using hne)) h;have B1:Below wo.heap.size wo w1:=Below.grown (by (repeat (with_reducible first | exact Below.refl _ _ | refine bdr ?_ | refine bdn ?_ _ | refine bal ?_ _))) hg1 (by (simp <;> omega)) (by intro q hq;simp [Value.ownBlock] at hq;omega);have z1:=B1.size)
                            | (refine app_step elRd (by rfl) _ _ (by rfl) wo.heap.size (.slice (some ⟨(wo.heap.size+1),0,none⟩) 0 0) 0 [] (by rfl) (own_lit0 (t:=47) (by first | exact Blk.fresh (by simp) | exact (Blk.fresh (by simp)).drew | exact (Blk.fresh (by simp)).alloc _ | exact ((Blk.fresh (by simp)).alloc _).drew) (by omega)) _ k _ ((cellsOf encRcd ol).take (k * 3)) (by rfl) (VP.out.below (by (repeat (with_reducible first | exact Below.refl _ _ | refine bdr ?_ | refine bdn ?_ _ | refine bal ?_ _)))) NP.out LP.out (oneC_take OX.out _) (by omega) (by (simp <;> omega)) ?_;intro v1 w1 hown1 hg1 hat1;have K1:=fun g cs (h:Blk _ g 47 cs) (hne:g ≠ (wo.heap.size+1))=>Eq.trans (hg1.block g (Blk.lt h) (by simpa [Value.ownBlock] using hne)) h;have B1:Below wo.heap.size wo w1:=Below.grown (by (repeat (with_reducible first | exact Below.refl _ _ | refine bdr ?_ | refine bdn ?_ _ | refine bal ?_ _))) hg1 (by (simp <;> omega)) (by intro q hq;simp [Value.ownBlock] at hq;omega);have z1:=B1.size)
                            | (refine app_step elRd (by rfl) _ _ (by rfl) wo.heap.size v1 (0+k) _ (by rfl) (by first | exact hown1 | exact hown1.alloc _) _ 1 _ [.int .i64 year,.int .i64 crop,.slice am nm cm] (by rfl) (by first | exact vw_blk (Blk.fresh (by simp)) | exact vw_blk (K1 (wo.heap.size+1) (List.toArray [.int .i64 year,.int .i64 crop,.slice am nm cm]) (by first | exact Blk.fresh (by simp) | exact (Blk.fresh (by simp)).drew | exact (Blk.fresh (by simp)).alloc _ | exact ((Blk.fresh (by simp)).alloc _).drew) (by omega)) | exact vw_blk (K1 wo.heap.size (List.toArray [.int .i64 year,.int .i64 crop,.slice am nm cm]) (by first | exact Blk.fresh (by simp) | exact (Blk.fresh (by simp)).drew | exact (Blk.fresh (by simp)).alloc _ | exact ((Blk.fresh (by simp)).alloc _).drew) (by omega))) (by simp) (by rfl) (oneC_rd ⟨year,crop,⟨am,nm,cm,lm⟩⟩) (by omega) (by first | exact z1 | (simp;omega)) ?_;intro v2 w2 hown2 hg2 hat2;have B2:Below wo.heap.size wo w2:=Below.grown (by (repeat (with_reducible first | exact B1 | exact Below.refl _ _ | refine bdr ?_ | refine bdn ?_ _ | refine bal ?_ _))) hg2 (by first | exact z1 | (simp;omega)) (by intro q hq;exact (hown1.lt q hq).1);have z2:=B2.size)
                            | (refine app_step elRd (by rfl) _ _ (by rfl) wo.heap.size v2 (0+k+1) _ (by rfl) hown2 _ 0 _ ((cellsOf encRcd ol).drop (k * 3)) (by rfl) ((VS0.out _).below B2) (fun _=>rfl) LS.out OS.out (by omega) z2 ?_;intro v3 w3 hown3 hg3 hat3;have B3:Below wo.heap.size wo w3:=Below.grown B2 hg3 z2 (by intro q hq;exact (hown2.lt q hq).1);obtain ⟨a3,cap3,rfl,q31,q32,q33⟩:=own_form hown3))
              all_goals
                (try simp only [Nat.zero_add,Nat.add_zero] at hown3)
                exact TAIL.out _ _ _ (ol.take k++[(⟨year,crop,⟨am,nm,cm,lm⟩⟩:RcdM)]++ol.drop k) _ _ _ _ _ _ _ _ _ _ _ _ _ _ _ _ _ _ _ _ _ _ _ _ _ _ _ _ _ _ _ _ _ _ _ _ _ _ _ _ _ _ _ _ _ _ _ _ _ _ _ _ _ _ _ _ _ _ _ _ _ _ _ _ _ _ _ _ _ _ _ _ _ _ _ _ _ _ _ _ _ _ _ _ _ _ _ _ _ _ _ _ _ _ _ _ _ _ _ _ _ _ _ _ _ _ _ _ _ _ _ _ _ _ _ _ _ _ _ _ _ _ _ _ _ _ _ _ _ _ _ _ _ _ _ _ _ _ _ _ _ _ _ _ _ _ _ _ _ _ _ _ _ _ (by omega) (own_ins hown3 (by omega)) (ins_len HNN.out (by omega) (by omega)) (ins_all (fun r hr=>(HFR.out r hr).below (btr HBJ.out B3)) (HIN.out.mok.below (btr HBJ.out B3))) (ins_all HFC.out ⟨HMC.out.self,fun x y h=>HMB.out x y ((HMC.out.iff x y).1 h)⟩) HAD.out (btr (btr HFB.out HBJ.out) B3)
end Go.Proofs.YtancajcelmhnkaaGreatDoor
