/- feature.On: the features that are there on a day. -/
import Derived.Test.YtancajcelmhnkaaGreatDoorGn
set_option maxRecDepth 100000
set_option maxHeartbeats 4000000
namespace Go.Proofs.YtancajcelmhnkaaGreatDoor
open Go.RowKit Go.Sort Go.Shelf
set_option linter.unusedVariables false
set_option linter.unusedSimpArgs false
theorem pfsingle_any (f:FtrM) (w:World) (hs:ScOk2 w f.s) (hg:FGood f.pl) :
  Calls Tryz.prog 199 #[.agg #[.int .i64 f.number,.int .i64 f.kind,.int .i64 f.since,.int .i64 f.till,.slice f.s.a f.s.n f.s.c]] w fun e w'=>e=.returned (.int .i64 (if kindOk f.kind then 0 else 14))∧Below w.heap.size w w':=by
 obtain ⟨nu,ki,si,ti,a,n,c,l⟩:=f
 obtain ⟨⟨n1,n2⟩,⟨d1,d2,d3⟩,hne,hv⟩:=hg
 dsimp only [FtrM.pl] at n1 n2 d1 d2 d3 hne hv
 dsimp only at hs ⊢
 have hn0:0<n:=by have:=List.length_pos_iff.2 hne;have:=hs.1.2.1;dsimp only at this;omega
 have b0:((n:Int) == 0)=false:=by simp;omega
 obtain ⟨W,hW⟩:∃ W,w.alloc (.cells #[.int .i64 nu,.int .i64 ki,.int .i64 si,.int .i64 ti,.slice a n c] 49)=W:=⟨_,rfl⟩
 have B1:RowKit.Hid (Blk W w.heap.size 49 #[.int .i64 nu,.int .i64 ki,.int .i64 si,.int .i64 ti,.slice a n c]):=by show Blk _ _ _ _;rw [← hW];exact Blk.new w _ _
 have BB:RowKit.Hid (Below w.heap.size w W):=by show Below _ _ _;rw [← hW];exact Bw.out
 have m1:n≤100000:=hs.1.2.2
 have HV:=hid (valid_any a n c l W (hs.1.1.below BB.out) hs.1.2.1 (by omega))
 have V:=hid hv
 have c0:W.cell? ⟨w.heap.size,0,none⟩=some (.int .i64 nu):=B1.out.cell 0
 have c1:W.cell? ⟨w.heap.size,1,none⟩=some (.int .i64 ki):=B1.out.cell 1
 have c2:W.cell? ⟨w.heap.size,2,none⟩=some (.int .i64 si):=B1.out.cell 2
 have c3:W.cell? ⟨w.heap.size,3,none⟩=some (.int .i64 ti):=B1.out.cell 3
 have c4:W.cell? ⟨w.heap.size,4,none⟩=some (.slice a n c):=B1.out.cell 4
 clear hs hne hv
 unfold kindOk
 by_cases k1:ki<0
 ·rw [decide_eq_false (by omega)]
  go_enter Tryz.func199,Tryz.ntmps199
  go_wp2
  go_ret
  exact ⟨rfl,BB.out⟩
 ·by_cases k2:15<ki
  ·rw [decide_eq_false (by omega)]
   go_enter Tryz.func199,Tryz.ntmps199
   go_wp2
   go_ret
   exact ⟨rfl,BB.out⟩
  ·rw [decide_eq_true (by omega)]
   go_enter Tryz.func199,Tryz.ntmps199
   go_wp2_with (go_at_call 96;refine HV.out.mono ?_;rintro e w1 ⟨b1,rfl,hi,hb1⟩;obtain rfl:b1=true:=hi.2 V.out;clear hi;have y4:=bc1 hb1 c4;have HB1:=hid hb1;clear hb1)
   go_ret
   exact ⟨rfl,btr BB.out HB1.out⟩
theorem pfcheck_any (s:Sc FtrM) (w:World) (hR:Rws encFtr w s 60) (hr:∀ r ∈ s.l,ScOk2 w r.s) (hg:LGood (s.l.map FtrM.pl)) :
  Calls Tryz.prog 177 #[.slice s.a s.n s.c] w fun e w'=>∃ x,e=.returned (.int .i64 x)∧LChk (s.l.map FtrM.pl) x∧Below w.heap.size w w':=by
 obtain ⟨a,n,c,l⟩:=s
 dsimp only at hr hg ⊢
 have HR:=hid hR;have HS:=hid hr;have HG:=hid hg
 have hn:l.length=n:=hR.len
 have HN:=hid hn
 have hm:n≤60:=hR.few
 have h60:¬ (60:Int)<(n:Int):=by omega
 clear hR hr hg hn
 go_enter Tryz.func177,Tryz.ntmps177
 go_wp2
 go_loopw [11] (fun i wr=>∃ k:Nat,k≤n∧i=.int .i64 k∧(∀ j (h:j<l.length),j<k→kindOk l[j].kind=true)∧Below w.heap.size w wr) (fun i _=>n - (intOf i).toNat)
 case atStart=>exact ⟨0,Nat.zero_le _,rfl,(fun j _ h=>absurd h (Nat.not_lt_zero j)),Below.refl _ _⟩
 case round =>
  obtain ⟨k,hk,rfl,hno,hb⟩:=hrel
  have NO:=hid hno;have HB:=hid hb
  clear hno hb
  by_cases hlt:k<n
  ·have hke:k<l.length:=by rw [HN.out];exact hlt
   obtain ⟨b,off,rfl,hbl,hrg⟩:=HR.out.vw.range (k:=5) (fun x _=>encFtr_len x) (by omega) k hke
   have HRG:=hid (rangeAt_below hrg HB.out)
   have HFO:=hid fun W (hW:Below w.heap.size w W)=>pfsingle_any l[k] W ((HS.out _ (List.getElem_mem hke)).below hW) (HG.out.good _ (List.mem_map.2 ⟨_,List.getElem_mem hke,rfl⟩))
   obtain ⟨kd,hkd⟩:∃ kd,kindOk l[k].kind=kd:=⟨_,rfl⟩
   rw [hkd] at HFO
   have HKD:=hid hkd
   clear hrg hkd
   have HPV:RowKit.Hid (∀ m,k=m+1→∃ hm:m<l.length,wr.cell? ⟨b,off+m * 5,none⟩=some (.int .i64 l[m].number)∧l[m].number<l[k].number):=fun m hm=>by
    subst hm
    have hml:m<l.length:=by omega
    obtain ⟨b',off',e,_,hrg'⟩:=HR.out.vw.range (k:=5) (fun x _=>encFtr_len x) (by omega) m hml
    cases e
    refine ⟨hml,(rangeAt_below hrg' HB.out) 0 _ rfl,?_⟩
    have:=List.pairwise_iff_getElem.1 HG.out.pair m (m+1) (by simpa using hml) (by simpa using hke) (by omega)
    simp only [List.getElem_map] at this
    exact this
   obtain ⟨f,hf⟩:∃ f,l[k]=f:=⟨_,rfl⟩
   rw [hf] at HRG HFO HPV
   clear hf
   obtain ⟨nu,ki,si,ti,fa,fn,fc,fl⟩:=f
   dsimp only [encFtr] at HRG HFO HPV
   obtain ⟨W1,hW1⟩:∃ W1,wr.alloc (.cells #[.int .i64 nu,.int .i64 ki,.int .i64 si,.int .i64 ti,.slice fa fn fc] 49)=W1:=⟨_,rfl⟩
   have BX:RowKit.Hid (Blk W1 wr.heap.size 49 #[.int .i64 nu,.int .i64 ki,.int .i64 si,.int .i64 ti,.slice fa fn fc]):=by show Blk _ _ _ _;rw [← hW1];exact Blk.new _ _ _
   have BW:RowKit.Hid (Below wr.heap.size wr W1):=by show Below _ _ _;rw [← hW1];exact Bw.out
   cases kd with
   | false =>
    go_wp2_with (first
     | (refine wpList_load_mid rfl 49 (.tmp 14) rfl b (off+k * 5) rfl [.int .i64 nu,.int .i64 ki,.int .i64 si,.int .i64 ti,.slice fa fn fc] _ HRG.out Tryz.underlying49 rfl ftInfo ?_)
     | (refine st_new rfl 49 (.tmp 4) (.tmp 15) rfl #[.int .i64 nu,.int .i64 ki,.int .i64 si,.int .i64 ti,.slice fa fn fc] _ _ rfl rfl ftInfo rfl (ft_one _ _ _ _ _ _ _) ?_;rw [hW1])
     | (refine wpList_load_row rfl 49 (.tmp 4) rfl wr.heap.size rfl _ #[.int .i64 nu,.int .i64 ki,.int .i64 si,.int .i64 ti,.slice fa fn fc] _ _ BX.out Tryz.underlying49 rfl ftInfo ?_)
     | (go_at_call 199;refine (HFO.out _ (btr HB.out BW.out)).mono ?_;rintro e w1 ⟨rfl,hb1⟩))
    go_ret
    refine ⟨14,rfl,⟨fun h=>?_,fun _=>rfl⟩,btr (btr HB.out BW.out) hb1⟩
    have:=h _ (List.mem_map.2 ⟨_,List.getElem_mem hke,rfl⟩)
    rw [show (FtrM.pl l[k]).kind=l[k].kind from rfl] at this
    exact absurd (HKD.out) (by rw [this];decide)
   | true =>
    cases k with
    | zero =>
     go_wp2_with (first
      | (refine wpList_load_mid rfl 49 (.tmp 14) rfl b (off+0 * 5) rfl [.int .i64 nu,.int .i64 ki,.int .i64 si,.int .i64 ti,.slice fa fn fc] _ HRG.out Tryz.underlying49 rfl ftInfo ?_)
      | (refine st_new rfl 49 (.tmp 4) (.tmp 15) rfl #[.int .i64 nu,.int .i64 ki,.int .i64 si,.int .i64 ti,.slice fa fn fc] _ _ rfl rfl ftInfo rfl (ft_one _ _ _ _ _ _ _) ?_;rw [hW1])
      | (refine wpList_load_row rfl 49 (.tmp 4) rfl wr.heap.size rfl _ #[.int .i64 nu,.int .i64 ki,.int .i64 si,.int .i64 ti,.slice fa fn fc] _ _ BX.out Tryz.underlying49 rfl ftInfo ?_)
      | (go_at_call 199;refine (HFO.out _ (btr HB.out BW.out)).mono ?_;rintro e w1 ⟨rfl,hb1⟩))
     go_quiet (fail)
     go_wp2
     go_roundw
     case rel =>
      refine ⟨1,by omega,by go_num,fun j hj hjk=>?_,(by (repeat (with_reducible first | exact btr (btr HB.out BW.out) hb1 | exact Below.refl _ _ | refine bdr ?_ | refine bdn ?_ _ | refine bal ?_ _)))⟩
      obtain rfl:j=0:=by omega
      exact HKD.out
     case measure=>simp [intOf];omega
    | succ m =>
     obtain ⟨hml,p0,hlt2⟩:=HPV.out m rfl
     obtain ⟨pn,hpn⟩:∃ pn,l[m].number=pn:=⟨_,rfl⟩
     rw [hpn] at p0 hlt2
     clear hpn
     go_wp2_with (first
      | (refine wpList_load_mid rfl 49 (.tmp 14) rfl b (off+(m+1) * 5) rfl [.int .i64 nu,.int .i64 ki,.int .i64 si,.int .i64 ti,.slice fa fn fc] _ HRG.out Tryz.underlying49 rfl ftInfo ?_)
      | (refine st_new rfl 49 (.tmp 4) (.tmp 15) rfl #[.int .i64 nu,.int .i64 ki,.int .i64 si,.int .i64 ti,.slice fa fn fc] _ _ rfl rfl ftInfo rfl (ft_one _ _ _ _ _ _ _) ?_;rw [hW1])
      | (refine wpList_load_row rfl 49 (.tmp 4) rfl wr.heap.size rfl _ #[.int .i64 nu,.int .i64 ki,.int .i64 si,.int .i64 ti,.slice fa fn fc] _ _ BX.out Tryz.underlying49 rfl ftInfo ?_)
      | (go_at_call 199;refine (HFO.out _ (btr HB.out BW.out)).mono ?_;rintro e w1 ⟨rfl,hb1⟩;have q0:=bc1 (btr BW.out hb1) p0;have x0:w1.cell? ⟨wr.heap.size,0,none⟩=some (.int .i64 nu):=(BX.out.below hb1).cell 0))
     go_quiet (fail)
     go_wp2
     go_roundw
     case rel =>
      refine ⟨m+1+1,by omega,by go_num,fun j hj hjk=>?_,(by (repeat (with_reducible first | exact btr (btr HB.out BW.out) hb1 | exact Below.refl _ _ | refine bdr ?_ | refine bdn ?_ _ | refine bal ?_ _)))⟩
      by_cases e:j=m+1
      ·subst e;exact HKD.out
      ·exact NO.out j hj (by omega)
     case measure=>simp [intOf];omega
  ·go_wp2
   go_ret
   refine ⟨0,rfl,⟨fun _=>rfl,fun ⟨f,hf,h⟩=>?_⟩,HB.out⟩
   obtain ⟨g,hg,rfl⟩:=List.mem_map.1 hf
   obtain ⟨j,hj,rfl⟩:=List.getElem_of_mem hg
   have:=NO.out j hj (by have:=HN.out;omega)
   rw [show (FtrM.pl l[j]).kind=l[j].kind from rfl,this] at h
   cases h
def FRight (l:List Ftr) (day x:Int):Prop:=((∃ f ∈ l,kindOk f.kind=false)→x=14)∧((∀ f ∈ l,kindOk f.kind=true)→x=if 0≤day∧day≤36864 then 0 else 9)
theorem pfright_any (s:Sc FtrM) (day:Int) (w:World) (hR:Rws encFtr w s 60) (hr:∀ r ∈ s.l,ScOk2 w r.s) (hg:LGood (s.l.map FtrM.pl)) :
  Calls Tryz.prog 135 #[.slice s.a s.n s.c,.int .i64 day] w fun e w'=>∃ x,e=.returned (.int .i64 x)∧FRight (s.l.map FtrM.pl) day x∧Below w.heap.size w w':=by
 have HC:=hid (pfcheck_any s w hR hr hg)
 obtain ⟨a,n,c,l⟩:=s
 dsimp only at HC ⊢
 clear hR hr hg
 by_cases hk:∃ f ∈ l.map FtrM.pl,kindOk f.kind=false
 ·have HK:=hid hk
  clear hk
  go_enter Tryz.func135,Tryz.ntmps135
  go_wp2_with (go_at_call 177;refine HC.out.mono ?_;rintro e w1 ⟨x,rfl,hx,hb1⟩;obtain rfl:x=14:=hx.2 HK.out;clear hx)
  go_ret
  refine ⟨14,rfl,⟨fun _=>rfl,fun h=>?_⟩,hb1⟩
  obtain ⟨f,hf,h2⟩:=HK.out
  rw [h f hf] at h2
  cases h2
 ·have hall:∀ f ∈ l.map FtrM.pl,kindOk f.kind=true:=fun f hf=>by
   cases h:kindOk f.kind with
   | true=>rfl
   | false=>exact absurd ⟨f,hf,h⟩ hk
  have HA:=hid hall;have HK:=hid hk
  clear hall hk
  by_cases h1:day<0
  ·go_enter Tryz.func135,Tryz.ntmps135
   go_wp2_with (go_at_call 177;refine HC.out.mono ?_;rintro e w1 ⟨x,rfl,hx,hb1⟩;obtain rfl:x=0:=hx.1 HA.out;clear hx)
   go_ret
   exact ⟨9,rfl,⟨fun h=>absurd h HK.out,fun _=>by rw [if_neg (by omega)]⟩,hb1⟩
  ·by_cases h2:36864<day
   ·go_enter Tryz.func135,Tryz.ntmps135
    go_wp2_with (go_at_call 177;refine HC.out.mono ?_;rintro e w1 ⟨x,rfl,hx,hb1⟩;obtain rfl:x=0:=hx.1 HA.out;clear hx)
    go_ret
    exact ⟨9,rfl,⟨fun h=>absurd h HK.out,fun _=>by rw [if_neg (by omega)]⟩,hb1⟩
   ·go_enter Tryz.func135,Tryz.ntmps135
    go_wp2_with (go_at_call 177;refine HC.out.mono ?_;rintro e w1 ⟨x,rfl,hx,hb1⟩;obtain rfl:x=0:=hx.1 HA.out;clear hx)
    go_ret
    exact ⟨0,rfl,⟨fun h=>absurd h HK.out,fun _=>by rw [if_pos (by omega)]⟩,hb1⟩
theorem clone_any (a:Option Addr) (n c:Nat) (l:List Rc) (w:World) (hV:Vw w a (rcCells l)) (hn:l.length=n) (h0:a=none→n=0) (hm:n≤1000000) :
  Calls Tryz.prog 55 #[.slice a n c] w (NewRc w l):=by
 have HV:=hid hV;have HN:=hid hn
 have q22:=fun (w:World) (a:Option Addr) (n c n' c':Nat)=>Lib.run_eql_slice_nil w 36 _ a n c n' c' Tryz.underlying36
 cases a with
 | none =>
  have hl:l=[]:=List.eq_nil_of_length_eq_zero (hn.trans (h0 rfl))
  have HL:=hid hl
  clear hV hn h0 hl
  go_enter Tryz.func55,Tryz.ntmps55
  go_wp2
  go_ret
  exact ⟨_,rfl,by rw [HL.out];exact World.ownsRow_nil _ _ _ _,Below.refl _ _⟩
 | some x =>
  clear hV hn h0
  go_enter Tryz.func55,Tryz.ntmps55
  go_wp2_with (at_builtin;refine app_list elRc rfl _ _ rfl w.heap.size (.slice (some ⟨w.heap.size,0,none⟩) 0 0) 0 [] rfl (own_lit0 (t:=87) (Blk.fresh rfl) (Nat.le_refl _)) (some x) n c (rcCells l) rfl (HV.out.below Bw.out) (fun h=>by cases h) (by rw [cellsOf_length encRc_len,HN.out]) (oneC_cells oneC_rc l) (by omega) (by simp) ?_;intro v2 w2 hown2 hg2 _)
  go_ret
  refine ⟨v2,rfl,?_,Below.grown Bw.out hg2 (by simp) (by intro q hq;simp [Value.ownBlock] at hq;omega)⟩
  rw [HN.out]
  simpa using hown2
theorem cloneS_any (s:Sc Rc) (w:World) (h:ScOk2 w s):Calls Tryz.prog 55 #[.slice s.a s.n s.c] w (NewRc w s.l) :=
 clone_any s.a s.n s.c s.l w h.1.1 h.1.2.1 h.2.1 (by have:=h.1.2.2;omega)
theorem copied_any (f:FtrM) (w:World) (hs:ScOk2 w f.s) :
  Calls Tryz.prog 179 #[.agg #[.int .i64 f.number,.int .i64 f.kind,.int .i64 f.since,.int .i64 f.till,.slice f.s.a f.s.n f.s.c]] w fun e w'=>∃ s':Sc Rc,e=.returned (.agg #[.int .i64 f.number,.int .i64 f.kind,.int .i64 f.since,.int .i64 f.till,.slice s'.a s'.n s'.c])∧Below w.heap.size w w':=by
 obtain ⟨nu,ki,si,ti,a,n,c,l⟩:=f
 dsimp only at hs ⊢
 obtain ⟨W,hW⟩:∃ W,(w.alloc (.cells #[.int .i64 nu,.int .i64 ki,.int .i64 si,.int .i64 ti,.slice a n c] 49)).alloc (.cells #[.int .i64 0,.int .i64 0,.int .i64 0,.int .i64 0,.slice none 0 0] 49)=W:=⟨_,rfl⟩
 have B1:RowKit.Hid (Blk W w.heap.size 49 #[.int .i64 nu,.int .i64 ki,.int .i64 si,.int .i64 ti,.slice a n c]):=by show Blk _ _ _ _;rw [← hW];exact (Blk.new w _ _).alloc _
 have B2:RowKit.Hid (Blk W (w.heap.size+1) 49 #[.int .i64 0,.int .i64 0,.int .i64 0,.int .i64 0,.slice none 0 0]):=by show Blk _ _ _ _;rw [← hW];exact Blk.fresh (by simp)
 have BB:RowKit.Hid (Below w.heap.size w W):=by show Below _ _ _;rw [← hW];exact Bw.out
 have x4:W.cell? ⟨w.heap.size,4,none⟩=some (.slice a n c):=B1.out.cell 4
 have HCL:=hid (cloneS_any ⟨a,n,c,l⟩ W (hs.below BB.out))
 dsimp only at HCL
 clear hs
 go_enter Tryz.func179,Tryz.ntmps179
 go_wp2_with (first
  | (go_at_call 55;refine HCL.out.mono ?_;rintro e w1 ⟨v1,rfl,ho1,hb1⟩;obtain ⟨a1,c1,rfl,-,-,-⟩:=own_form ho1;have HB1:=hid hb1;have BX:=hid (B1.out.below hb1);have BY:=hid (B2.out.below hb1);have z4:w1.cell? ⟨w.heap.size,4,none⟩=some (.slice a n c):=BX.out.cell 4;have f4:w1.frozen? ⟨w.heap.size,4,none⟩=false:=BX.out.free 4;clear ho1 hb1)
  | (refine wpList_load_row rfl 49 (.tmp 1) rfl w.heap.size rfl _ #[.int .i64 nu,.int .i64 ki,.int .i64 si,.int .i64 ti,.slice a1 l.length c1] _ _ (BX.out.put 4 (.slice a1 l.length c1)) Tryz.underlying49 rfl ftInfo ?_)
  | (refine wpList_store_row rfl 49 (.tmp 2) (.tmp 9) rfl (w.heap.size+1) #[.int .i64 nu,.int .i64 ki,.int .i64 si,.int .i64 ti,.slice a1 l.length c1] rfl rfl _ _ (BY.out.far _ _ _ (by omega)) ftInfo rfl (ft_one _ _ _ _ _ _ _) ?_))
 have BR:=setRow_heap (w1.setCell ⟨w.heap.size,4,none⟩ (.slice a1 l.length c1)) (w.heap.size+1) _ #[.int .i64 nu,.int .i64 ki,.int .i64 si,.int .i64 ti,.slice a1 l.length c1] _ _ (BY.out.far _ _ _ (by omega))
 refine bodyPost_ret (results_cell_row rfl _ _ _ _ _ _ _ rfl BR Tryz.underlying49 rfl ftInfo) rfl ?_
 exact ⟨⟨a1,l.length,c1,l⟩,rfl,below_setRow (bst (btr BB.out HB1.out) _ _ _ (Nat.le_refl _)) (by omega) _⟩
theorem all_any (s:Sc FtrM) (w:World) (hR:Rws encFtr w s 60) (hr:∀ r ∈ s.l,ScOk2 w r.s) :
  Calls Tryz.prog 137 #[.slice s.a s.n s.c] w fun e w'=>∃ (v:Value) (L:List FtrM),e=.returned v∧w'.ownsRow w.heap.size 49 5 v L.length (cellsOf encFtr L)∧L.length≤60∧Below w.heap.size w w':=by
 obtain ⟨a,n,c,l⟩:=s
 dsimp only at hr ⊢
 have HR:=hid hR;have HS:=hid hr
 have hn:l.length=n:=hR.len
 have HN:=hid hn
 have hm:n≤60:=hR.few
 clear hR hr hn
 go_enter Tryz.func137,Tryz.ntmps137
 go_wp2
 go_loopw [3,8] (fun v i wr=>∃ (k:Nat) (L:List FtrM),k≤n∧i=.int .i64 k∧L.length=k∧wr.ownsRow w.heap.size 49 5 v L.length (cellsOf encFtr L)∧Below w.heap.size w wr) (fun _ i _=>n - (intOf i).toNat)
 case atStart=>exact ⟨0,[],Nat.zero_le _,rfl,rfl,World.ownsRow_nil _ _ _ _,Below.refl _ _⟩
 case round =>
  obtain ⟨k,L,hk,rfl,hL,hown,hb⟩:=hrel
  have OWN:=hid hown;have HB:=hid hb;have HLL:=hid hL
  obtain ⟨a0,c0,rfl,-,-,-⟩:=own_form hown
  have hLk:L.length≤60:=by omega
  obtain ⟨m,hm'⟩:∃ m,L.length=m:=⟨_,rfl⟩
  have HMM:=hid hm'
  rw [hm'] at OWN HLL hLk ⊢
  clear hown hb hL hm'
  by_cases hlt:k<n
  ·have hke:k<l.length:=by rw [HN.out];exact hlt
   obtain ⟨b,off,rfl,hbl,hrg⟩:=HR.out.vw.range (k:=5) (fun x _=>encFtr_len x) (by omega) k hke
   have HRG:=hid (rangeAt_below hrg HB.out)
   have HCO:=hid fun W (hW:Below w.heap.size w W)=>copied_any l[k] W ((HS.out _ (List.getElem_mem hke)).below hW)
   clear hrg
   obtain ⟨f,hf⟩:∃ f,l[k]=f:=⟨_,rfl⟩
   rw [hf] at HRG HCO
   clear hf
   obtain ⟨nu,ki,si,ti,fa,fn,fc,fl⟩:=f
   dsimp only [encFtr] at HRG HCO
   go_wp2_with (first
    | (refine wpList_load_mid rfl 49 (.tmp 10) rfl b (off+k * 5) rfl [.int .i64 nu,.int .i64 ki,.int .i64 si,.int .i64 ti,.slice fa fn fc] _ HRG.out Tryz.underlying49 rfl ftInfo ?_)
    | (refine st_new rfl 49 (.tmp 5) (.tmp 11) rfl #[.int .i64 nu,.int .i64 ki,.int .i64 si,.int .i64 ti,.slice fa fn fc] _ _ rfl rfl ftInfo rfl (ft_one _ _ _ _ _ _ _) ?_)
    | (refine wpList_load_row rfl 49 (.tmp 5) rfl wr.heap.size rfl _ #[.int .i64 nu,.int .i64 ki,.int .i64 si,.int .i64 ti,.slice fa fn fc] _ _ (Blk.new _ _ _) Tryz.underlying49 rfl ftInfo ?_)
    | (go_at_call 179;refine (HCO.out _ (by (repeat (with_reducible first | exact HB.out | exact Below.refl _ _ | refine bdr ?_ | refine bdn ?_ _ | refine bal ?_ _)))).mono ?_;rintro e w1 ⟨s1,rfl,hb1⟩;obtain ⟨sa,sn,sc,sl⟩:=s1;have hq1:Below wr.heap.size wr w1:=btr Bw.out hb1)
    | (refine bs_one elFt (by decide) rfl (.tmp 14) rfl #[.int .i64 nu,.int .i64 ki,.int .i64 si,.int .i64 ti,.slice sa sn sc] rfl rfl ?_)
    | (at_builtin;refine app_list elFt rfl _ _ rfl w.heap.size _ m _ rfl (own_keep OWN.out (bal hq1 _)) _ 1 _ (encFtr ⟨nu,ki,si,ti,⟨sa,sn,sc,sl⟩⟩) rfl (by first | exact vw_blk (Blk.fresh (by simp)) | exact vw_blk (Blk.fresh (by simp)).drew) (by simp) rfl (oneC_ft _) (by omega) (by have:=HB.out.size;have:=hq1.size;simp;omega) ?_;intro v2 w2 hown2 hg2 _))
   go_roundw
   case rel =>
    refine ⟨k+1,L++[⟨nu,ki,si,ti,⟨sa,sn,sc,sl⟩⟩],by omega,by go_num,by rw [List.length_append,HMM.out];have:=HLL.out;simp;omega,?_,below_app (own_keep OWN.out (bal hq1 _)) (btr HB.out (bal hq1 _)) hg2⟩
    rw [cellsOf_snoc,List.length_append,HMM.out]
    exact hown2
   case measure=>simp [intOf];omega
  ·go_wp2
   go_ret
   exact ⟨_,L,rfl,by rw [HMM.out];exact OWN.out,by rw [HMM.out];exact hLk,HB.out⟩
end Go.Proofs.YtancajcelmhnkaaGreatDoor
