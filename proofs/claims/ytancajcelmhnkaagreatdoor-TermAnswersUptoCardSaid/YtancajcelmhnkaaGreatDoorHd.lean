/- term.Parse at the words of a valid term. -/
import Derived.Test.YtancajcelmhnkaaGreatDoorTrt
import Derived.Test.YtancajcelmhnkaaGreatDoorGy
import Derived.Test.YtancajcelmhnkaaGreatDoorHc
set_option maxRecDepth 100000
set_option maxHeartbeats 8000000
namespace Go.Proofs.YtancajcelmhnkaaGreatDoor
open Go.RowKit Go.Sort Go.Shelf
set_option linter.unusedVariables false
set_option linter.unusedSimpArgs false
theorem Blk.put4 {w:World} {g:Nat} {t:TypeId} {cs cs':Array Value} {v0 v1 v2 v3:Value} (h:Blk w g t cs) (e:(((cs.setIfInBounds 0 v0).setIfInBounds 1 v1).setIfInBounds 2 v2).setIfInBounds 3 v3=cs') :
  Blk ((((w.setCell ⟨g,0,none⟩ v0).setCell ⟨g,1,none⟩ v1).setCell ⟨g,2,none⟩ v2).setCell ⟨g,3,none⟩ v3) g t cs':=e ▸ (((h.put 0 v0).put 1 v1).put 2 v2).put 3 v3
theorem cloneW_any (b off c:Nat) (l:List ByteArray) (w:World) (hc:∀ i s,l[i]? = some s→w.cell? ⟨b,off+i,none⟩=some (.string s)) (hm:l.length≤1000000) :
  Calls Tryz.prog 71 #[.slice (some ⟨b,off,none⟩) l.length c] w fun e w'=>∃ v,e=.returned v∧w'.ownsRow w.heap.size 9 1 v l.length (strCells l)∧Below w.heap.size w w':=by
 obtain ⟨i0,hi,hz0,hz1,hz2⟩:=info_parts infoStr
 refine (Tryz.slices_Clone i0 _ 1 16 hi hz0 hz1 hz2 rfl (by decide) (fun w=>by kernel_rfl) b off l.length c (strCells l) w (by simp) (by unfold maxLen;omega) (by omega) (fun j u hj=>?_) (oneC_str l)).mono ?_
 ·rw [List.getElem?_map] at hj
  cases hl:l[j]? with
  | none=>rw [hl] at hj;cases hj
  | some s=>rw [hl] at hj;cases hj;exact hc j s hl
 ·rintro e w' ⟨v,rfl,ho,-,hb⟩
  exact ⟨v,rfl,ho,hb⟩
def PrsP (w:World) (t:Tm) (rest:List ByteArray) (e:Ending) (w':World):Prop :=
 ∃ (tm:TmM) (v:Value),e=.returned (.tuple #[.agg (encTm tm).toArray,v,.int .i64 0])∧tm.pl=t∧TmOk w' tm∧TmFr w.heap.size tm∧w'.ownsRow w.heap.size 9 1 v rest.length (strCells rest)∧Below w.heap.size w w'
theorem parse_any (t:Tm) (hk:chkT t=0) (rest:List ByteArray) (nb off c:Nat) (w:World) (hc:∀ i s,(t.words++rest)[i]? = some s→w.cell? ⟨nb,off+i,none⟩=some (.string s)) (hl:(t.words++rest).length≤c) (hm:c≤1000000) :
  Calls Tryz.prog 35 #[.slice (some ⟨nb,off,none⟩) (t.words++rest).length c] w (PrsP w t rest):=by
 have hz:=chkT_zero hk
 have hnb:nb<w.heap.size:=by
  obtain ⟨l,e⟩:=Tm.words_cons t
  exact World.block_lt_of_cell? w _ (hc 0 (opWord t.op) (by rw [e];rfl))
 obtain ⟨L,hL⟩:∃ L,(t.words++rest).length=L:=⟨_,rfl⟩
 obtain ⟨W,hW⟩:∃ W,(w.alloc (.cells #[.int .i64 0,.int .i64 0,.int .i64 0,.slice none 0 0] 24)).alloc (.cells #[.slice (some ⟨nb,off,none⟩) L c,.bool false] 124)=W:=⟨_,rfl⟩
 have B0:RowKit.Hid (Blk W w.heap.size 24 #[.int .i64 0,.int .i64 0,.int .i64 0,.slice none 0 0]):=by show Blk _ _ _ _;rw [← hW];exact (Blk.new w _ _).alloc _
 have BB:RowKit.Hid (Below w.heap.size w W):=by show Below _ _ _;rw [← hW];exact Bw.out
 have BR:TRd W (w.heap.size+1) nb (t.words++rest):=by
  refine ⟨⟨off,c,?_,fun i s h=>bc1 BB.out (hc i s h),hl,by omega⟩,by omega⟩
  rw [hL,← hW];exact Blk.fresh (by simp)
 have hrl:rest.length≤1000000:=by rw [List.length_append] at hl;omega
 have HT:=hid (reads_any t hz.2 (by omega) W (w.heap.size+1) nb rest BR)
 have HK:=hid hk
 have yW:w.heap.size+1<W.heap.size:=BR.lt
 rw [hL]
 clear hc hl hk hL BR hz
 go_enter Tryz.func35,Tryz.ntmps35
 go_wp2_with (first
  | (go_at_call 70;refine HT.out.mono ?_;rintro e w2 ⟨⟨op,num,more,a,n,c2,kids⟩,rfl,hpl,hok,hfr,hr,hk2⟩;obtain ⟨off',c',hb',hc',hl',hm'⟩:=hr.ex;have x1:w2.cell? ⟨w.heap.size+1,1,none⟩=some (.bool false):=hb'.cell 1;have HPL:=hid hpl;have OK2:=hid hok;have FR2:=hid hfr;have R2:=hid hb';have RC2:=hid hc';have B2:=hid (hk2.blk B0.out (by show ¬ _=_;omega));have K2:=hid hk2;have y2:=hk2.size;have yx:w.heap.size+1<w2.heap.size:=(by omega);dsimp only [encTm];clear hpl hok hfr hr hk2 hb' hc')
  | (refine st_new rfl 24 (.tmp 6) (.tmp 12) rfl #[.int .i64 op,.int .i64 num,.int .i64 more,.slice a n c2] _ _ rfl rfl tmInfo rfl (tm_one _ _ _ _ _ _) ?_)
  | (refine wpList_load_row rfl 24 (.tmp 6) rfl w2.heap.size rfl _ #[.int .i64 op,.int .i64 num,.int .i64 more,.slice a n c2] _ _ (Blk.new _ _ _) Tryz.underlying24 rfl tmInfo ?_)
  | (go_at_call 40;refine (check_any (.mk op num more a n c2 kids) _ (OK2.out.beh Bw.out)).mono ?_;rw [HPL.out,HK.out];rintro e w4 ⟨rfl,hb4⟩;have BN4:=hid ((Blk.new w2 24 #[.int .i64 op,.int .i64 num,.int .i64 more,.slice a n c2]).below hb4);have BA4:Below w2.heap.size w2 w4:=btr Bw.out hb4;have HB4:=hid BA4;clear hb4 BA4))
 have q0:w4.cell? ⟨w2.heap.size,0,none⟩=some (.int .i64 op):=BN4.out.cell 0
 have q1:w4.cell? ⟨w2.heap.size,1,none⟩=some (.int .i64 num):=BN4.out.cell 1
 have q2:w4.cell? ⟨w2.heap.size,2,none⟩=some (.int .i64 more):=BN4.out.cell 2
 have q3:w4.cell? ⟨w2.heap.size,3,none⟩=some (.slice a n c2):=BN4.out.cell 3
 have x0:w4.cell? ⟨w.heap.size+1,0,none⟩=some (.slice (some ⟨nb,off',none⟩) rest.length c'):=(R2.out.below HB4.out).cell 0
 have HC:=hid fun W' (hW':Below w4.heap.size w4 W')=>cloneW_any nb off' c' rest W' (fun i s h=>bc1 (btr HB4.out hW') (RC2.out i s h)) hrl
 have B4:=hid (B2.out.below HB4.out)
 have y4:=HB4.out.size
 clear x1
 obtain ⟨m,hmm⟩:∃ m,rest.length=m:=⟨_,rfl⟩
 rw [hmm] at x0 HC
 have HM:=hid hmm
 clear hmm hrl hl'
 go_region_held3 (fun w'=>w'.cell? ⟨w2.heap.size,0,none⟩=some (.int .i64 op)∧w'.cell? ⟨w2.heap.size,1,none⟩=some (.int .i64 num)∧w'.cell? ⟨w2.heap.size,2,none⟩=some (.int .i64 more)∧w'.cell? ⟨w2.heap.size,3,none⟩=some (.slice a n c2)∧w'.cell? ⟨w.heap.size+1,0,none⟩=some (.slice (some ⟨nb,off',none⟩) m c')) (first | exact ⟨q0,q1,q2,q3,x0⟩ | exact ⟨bc1 k1 q0,bc1 k1 q1,bc1 k1 q2,bc1 k1 q3,bc1 k1 x0⟩ | simp [go_sem, *])
  (first | (go_at_call 71;refine (HC.out _ (by (repeat (with_reducible first | assumption | exact Below.refl _ _ | refine bdr ?_ | refine bdn ?_ _ | refine bal ?_ _)))).mono ?_;rintro e v1 ⟨v,rfl,ho,hb1⟩;have k1:Below w4.heap.size w4 v1:=btr (by (repeat (with_reducible first | assumption | exact Below.refl _ _ | refine bdr ?_ | refine bdn ?_ _ | refine bal ?_ _))) hb1;have HO:=hid (own_base ho (show w.heap.size+1≤_ by (try simp);omega));have BR1:=hid (B4.out.below k1);have z0:v1.cell? ⟨w.heap.size,0,none⟩=some (.int .i64 0):=BR1.out.cell 0;have z1:v1.cell? ⟨w.heap.size,1,none⟩=some (.int .i64 0):=BR1.out.cell 1;have z2:v1.cell? ⟨w.heap.size,2,none⟩=some (.int .i64 0):=BR1.out.cell 2;have z3:v1.cell? ⟨w.heap.size,3,none⟩=some (.slice none 0 0):=BR1.out.cell 3;have f0:=BR1.out.free 0;have f1:=BR1.out.free 1;have f2:=BR1.out.free 2;have f3:=BR1.out.free 3;have zl:=BR1.out.lt;clear ho hb1))
 all_goals
  go_wp2
  have B9:=Blk.put4 (v0:=.int .i64 op) (v1:=.int .i64 num) (v2:=.int .i64 more) (v3:=.slice a n c2) BR1.out rfl
  have KX:Kept (fun k=>k=w.heap.size) v1 ((((v1.setCell ⟨w.heap.size,0,none⟩ (.int .i64 op)).setCell ⟨w.heap.size,1,none⟩ (.int .i64 num)).setCell ⟨w.heap.size,2,none⟩ (.int .i64 more)).setCell ⟨w.heap.size,3,none⟩ (.slice a n c2)):=((((Kept.refl (fun k=>k=w.heap.size) v1).set rfl).set rfl).set rfl).set rfl
  refine bodyPost_ret (v:=.tuple #[.agg #[.int .i64 op,.int .i64 num,.int .i64 more,.slice a n c2],v,.int .i64 0]) (by simp [results,Tryz.results35,go_sem,Blk.cell B9]) rfl ?_
  refine ⟨.mk op num more a n c2 kids,v,rfl,HPL.out,tmOk_kept (OK2.out.beh (btr HB4.out k1)) FR2.out KX (by omega),FR2.out.le BB.out.size,?_,?_⟩
  ·have ho:=HO.out
   rw [← HM.out] at ho
   exact own_base (Kept.own KX ho fun g hg=>by have:=own_ge ho g hg;show ¬ g=w.heap.size;omega) (Nat.le_succ _)
  ·have h0:Below w.heap.size W w2:=K2.out.toBelow (by omega) fun i hi=>by show ¬ i=w.heap.size+1;omega
   have h1:Below w.heap.size w v1:=btr (btr (BB.out.trans h0) HB4.out) k1
   have h2:Below w.heap.size v1 _:=KX.toBelow (by have:=h1.size;omega) fun i hi=>by show ¬ i=w.heap.size;omega
   exact h1.trans h2
theorem Tm.backs_snoc (l:List Tm) (t:Tm) (h:0≤t.back):Tm.backs (l++[t])=max (Tm.backs l) t.back:=by
 induction l with
 | nil=>simp [Tm.backs];omega
 | cons a l ih=>rw [List.cons_append,Tm.backs,ih,Tm.backs];omega
theorem Tm.backs_nonneg (l:List Tm):0≤Tm.backs l:=by
 induction l with
 | nil=>simp [Tm.backs]
 | cons a l ih=>rw [Tm.backs];omega
theorem Tm.back_nonneg (t:Tm):0≤t.back:=by
 cases t with
 | mk op num more kids=>rw [Tm.back];have:=Tm.backs_nonneg kids;omega
def ownB (op num:Int):Int:=if op=6 then num - 1 else if op=7∨op=8 then num else 0
theorem own_few {op num more:Int} {n:Nat} (h:formB op num more n=true):0≤ownB op num∧ownB op num≤10∧(op=6∨op=7∨op=8→0≤num∧num≤10):=by
 have hop:=formB_op h
 unfold formB at h
 unfold ownB
 rcases hop with rfl | rfl | rfl | rfl | rfl | rfl | rfl | rfl | ⟨rfl | rfl,_⟩ | ⟨rfl,_⟩ <;> simp at h ⊢ <;> omega
theorem back_any (t:TmM):∀ (w:World),TmOk w t→t.pl.form=true →
  Calls Tryz.prog 75 #[.agg (encTm t).toArray] w fun e w'=>e=.returned (.int .i64 t.pl.back)∧Below w.heap.size w w':=by
 induction t using TmM.ind with
 | h op num more a n c kids ih =>
  intro w h hf
  rw [TmM.pl_mk] at hf ⊢
  obtain ⟨hfo,hfk⟩:=form_kid hf
  rw [List.length_map] at hfo
  obtain ⟨o1,o2,o3⟩:=own_few hfo
  have hop:=formB_op hfo
  rw [Tm.back]
  show Calls Tryz.prog _ #[.agg #[.int .i64 op,.int .i64 num,.int .i64 more,.slice a n c]] w _
  have H:=hid h;have IH:=hid ih;have HFK:=hid hfk
  have HN:=hid h.len
  have hc:=h.few
  obtain ⟨W,hW⟩:∃ W,w.alloc (.cells #[.int .i64 op,.int .i64 num,.int .i64 more,.slice a n c] 24)=W:=⟨_,rfl⟩
  have B0:RowKit.Hid (Blk W w.heap.size 24 #[.int .i64 op,.int .i64 num,.int .i64 more,.slice a n c]):=by show Blk _ _ _ _;rw [← hW];exact Blk.new w _ _
  have BB:RowKit.Hid (Below w.heap.size w W):=by show Below _ _ _;rw [← hW];exact Bw.out
  have x0:W.cell? ⟨w.heap.size,0,none⟩=some (.int .i64 op):=B0.out.cell 0
  have x1:W.cell? ⟨w.heap.size,1,none⟩=some (.int .i64 num):=B0.out.cell 1
  have x3:W.cell? ⟨w.heap.size,3,none⟩=some (.slice a n c):=B0.out.cell 3
  have y0:=B0.out.lt
  have HOW:RowKit.Hid (ownB op num=if op=6 then num - 1 else if op=7∨op=8 then num else 0):=rfl
  obtain ⟨own,hown⟩:∃ own,ownB op num=own:=⟨_,rfl⟩
  rw [← show ownB op num=(if op=6 then num - 1 else if op=7∨op=8 then num else 0) from rfl]
  have key:∀ v:Value,v=.int .i64 own→v=.int .i64 (ownB op num):=fun v hv=>by rw [hv,hown]
  have HOP:=hid hop
  have HWN:=hid hown
  rw [hown] at o1 o2 ⊢
  clear h ih hf hfo hfk hop key HOW hown
  go_enter Tryz.func75,Tryz.ntmps75
  go_upto_block 0 with fail
  go_cut [3] (fun v wx=>v=.int .i64 own∧wx=W)
  case first =>
   rcases HOP.out with rfl | rfl | rfl | rfl | rfl | rfl | rfl | rfl | ⟨rfl | rfl,_⟩ | ⟨rfl,_⟩
   all_goals (try (have o4:=o3 (by decide)))
   all_goals clear o3
   all_goals go_wp2
   all_goals go_meet
   all_goals (case rel=>exact ⟨by rw [← HWN.out];simp [ownB],by first | rfl | trivial⟩)
  case rest =>
  obtain ⟨rfl,rfl⟩:=hcut
  go_wp2
  go_loopw [3,21] (fun s i wr=>∃ k:Nat,k≤n∧i=.int .i64 k∧s=.int .i64 (max own (Tm.backs ((kids.map TmM.pl).take k)))∧Below wc.heap.size wc wr) (fun _ i _=>n - (intOf i).toNat)
  case atStart=>exact ⟨0,Nat.zero_le _,rfl,by simp [Tm.backs];omega,Below.refl _ _⟩
  case round =>
   obtain ⟨k,hk,rfl,rfl,hb⟩:=hrel
   have HB:=hid hb
   have yb:=hb.size
   clear hb
   by_cases hlt:k<n
   ·have hke:k<kids.length:=by rw [HN.out];exact hlt
    obtain ⟨b,off,rfl,hbl,hrg⟩:=H.out.at_ hke
    have HRG:=hid (rangeAt_below hrg (btr BB.out HB.out))
    have HSZ:RowKit.Hid (Tm.backs ((kids.map TmM.pl).take (k+1))=max (Tm.backs ((kids.map TmM.pl).take k)) kids[k].pl.back):=by
     show _=_
     have hkm:k<(kids.map TmM.pl).length:=by rw [List.length_map];exact hke
     rw [List.take_succ_eq_append_getElem hkm,Tm.backs_snoc _ _ (Tm.back_nonneg _),List.getElem_map]
    have HIH:=hid fun W' (hW':Below wr.heap.size wr W')=>IH.out _ (List.getElem_mem hke) W' ((H.out.kid (List.getElem_mem hke)).beh (btr (btr BB.out HB.out) hW')) (HFK.out _ (List.mem_map.2 ⟨_,List.getElem_mem hke,rfl⟩))
    clear hrg
    obtain ⟨kt,hkt⟩:∃ kt,kids[k]=kt:=⟨_,rfl⟩
    rw [hkt] at HRG HSZ HIH
    clear hkt
    obtain ⟨sz,hsz⟩:∃ sz,max own (Tm.backs ((kids.map TmM.pl).take k))=sz:=⟨_,rfl⟩
    have HSZ2:=hid hsz
    rw [hsz]
    clear hsz
    obtain ⟨ks,hks⟩:∃ ks,kt.pl.back=ks:=⟨_,rfl⟩
    rw [hks] at HSZ HIH
    clear hks
    obtain ⟨op',num',more',a',n',c',kids'⟩:=kt
    dsimp only [encTm] at HRG HIH
    go_wp2_with (first
     | (refine wpList_load_mid rfl 24 (.tmp 23) rfl b (off+k * 4) rfl [.int .i64 op',.int .i64 num',.int .i64 more',.slice a' n' c'] _ HRG.out Tryz.underlying24 rfl tmInfo ?_)
     | (refine st_new rfl 24 (.tmp 5) (.tmp 24) rfl #[.int .i64 op',.int .i64 num',.int .i64 more',.slice a' n' c'] _ _ rfl rfl tmInfo rfl (tm_one _ _ _ _ _ _) ?_)
     | (refine wpList_load_row rfl 24 (.tmp 5) rfl wr.heap.size rfl _ #[.int .i64 op',.int .i64 num',.int .i64 more',.slice a' n' c'] _ _ (Blk.new _ _ _) Tryz.underlying24 rfl tmInfo ?_)
     | (go_at_call 75;refine (HIH.out _ Bw.out).mono ?_;rintro e w2 ⟨rfl,hb2⟩;have Q2:RowKit.Hid (Below wr.heap.size wr w2):=btr Bw.out hb2;clear hb2))
    all_goals go_roundw
    all_goals first
     | (case rel =>
       refine ⟨k+1,by omega,by go_num,?_,btr HB.out Q2.out⟩
       have h1:=HSZ.out;have h2:=HSZ2.out
       congr 1
       omega)
     | (case measure=>simp [intOf];omega)
   ·obtain rfl:k=n:=by omega
    have e:(kids.map TmM.pl).take k=kids.map TmM.pl:=List.take_of_length_le (by rw [List.length_map];have:=HN.out;omega)
    rw [e]
    clear e
    go_wp2
    go_ret
    exact ⟨rfl,btr BB.out HB.out⟩
theorem sm_one (op num more:Int) (a:Option Addr) (n c:Nat):(#[.int .i64 op,.int .i64 num,.int .i64 more,.slice a n c]:Array Value).all (·.oneCell')=true:=by
 rw [List.all_toArray];rfl
theorem en_same:Enters 37:=enters_of Tryz.func37 (by kernel_rfl) rfl
structure TmS (w:World) (a:Option Addr) (n:Nat) (l:List TmM):Prop where
 vw:Vw w a (cellsOf encTm l)
 len:l.length=n
 ok:∀ k ∈ l,TmOk w k
theorem TmS.below {w w':World} {a:Option Addr} {n:Nat} {l:List TmM} (h:TmS w a n l) (hb:Below w.heap.size w w'):TmS w' a n l:=⟨h.vw.below hb,h.len,fun k hk=>(h.ok k hk).beh hb⟩
def IsW (s:ByteArray):Prop:=s.data.toList ≠ []∧∀ b ∈ s.data.toList,Lib.isSp b=false
theorem go_word (l:List UInt8):∀ (cur rest:List UInt8),(∀ b ∈ l,Lib.isSp b=false)→Lib.fieldsGo cur (l++rest)=Lib.fieldsGo (cur++l) rest:=by
 induction l with
 | nil=>intro cur rest _;simp
 | cons b l ih =>
  intro cur rest h
  have hb:=h b List.mem_cons_self
  rw [List.cons_append,Lib.fieldsGo,hb]
  simp only [Bool.false_eq_true,if_false]
  rw [ih _ _ fun x hx=>h x (List.mem_cons_of_mem _ hx),List.append_assoc]
  rfl
theorem joinW_list (a b:ByteArray) (l:List ByteArray):(joinW (a :: b :: l)).data.toList=a.data.toList++(32 :: (joinW (b :: l)).data.toList):=by
 show ((a++(⟨#[32]⟩:ByteArray))++joinW (b :: l)).data.toList=_
 simp [ByteArray.data_append]
theorem fields_join:∀ ws:List ByteArray,(∀ s ∈ ws,IsW s)→Lib.fields (joinW ws).data.toList=ws.map fun s=>s.data.toList
 | [],_=>rfl
 | [a],h=>by
  have ha:=h a (List.mem_singleton.2 rfl)
  show Lib.fieldsGo [] a.data.toList=_
  have:=go_word a.data.toList [] [] ha.2
  rw [List.append_nil,List.nil_append] at this
  rw [this,Lib.fieldsGo]
  have hne:a.data.toList.isEmpty=false:=by simpa using ha.1
  simp [hne]
 | a :: b :: l,h=>by
  have ha:=h a List.mem_cons_self
  have ih:=fields_join (b :: l) fun s hs=>h s (List.mem_cons_of_mem _ hs)
  have hne:a.data.toList.isEmpty=false:=by simpa using ha.1
  show Lib.fieldsGo [] (joinW (a :: b :: l)).data.toList=_
  rw [joinW_list,go_word _ _ _ ha.2,List.nil_append,Lib.fieldsGo]
  have h32:Lib.isSp 32=true:=by decide
  rw [h32]
  unfold Lib.fields at ih
  simp [hne,ih]
theorem isW_of {s:ByteArray} (h:s.data.toList ≠ []) (k:s.data.toList.all (fun b=>!Lib.isSp b)=true):IsW s:=⟨h,fun b hb=>by simpa using List.all_eq_true.1 k b hb⟩
theorem opWord_isW (op:Int):IsW (opWord op):=by
 unfold opWord
 repeat' split
 all_goals exact isW_of (by decide) (by decide)
theorem markWord_isW (m:Int):IsW (markWord m):=by
 unfold markWord
 repeat' split
 all_goals exact isW_of (by decide) (by decide)
theorem dig_isW:∀ i:Fin 100,Lib.decDigits i.val ≠ []∧(Lib.decDigits i.val).all (fun b=>!Lib.isSp b && decide (b.toNat<128))=true:=by decide +kernel
theorem numWord_isW {n:Int} (h0:0≤n) (h1:n<100):IsW (numWord n):=by
 obtain ⟨h2,h3⟩:=dig_isW ⟨n.toNat,by omega⟩
 refine isW_of (by simpa [numWord] using h2) (List.all_eq_true.2 fun b hb=>?_)
 have hb':b ∈ Lib.decDigits n.toNat:=by simpa [numWord] using hb
 have:=List.all_eq_true.1 h3 b hb'
 simp only [Bool.and_eq_true] at this
 exact this.1
def Asci (s:ByteArray):Prop:=∀ b ∈ s.data.toList,b.toNat<128
theorem opWord_asc (op:Int):Asci (opWord op):=by
 unfold opWord Asci
 repeat' split
 all_goals decide
theorem markWord_asc (m:Int):Asci (markWord m):=by
 unfold markWord Asci
 repeat' split
 all_goals decide
theorem numWord_asc {n:Int} (h0:0≤n) (h1:n<100):Asci (numWord n):=by
 obtain ⟨h2,h3⟩:=dig_isW ⟨n.toNat,by omega⟩
 intro b hb
 have hb':b ∈ Lib.decDigits n.toNat:=by simpa [numWord] using hb
 have:=List.all_eq_true.1 h3 b hb'
 simp only [Bool.and_eq_true,decide_eq_true_eq] at this
 exact this.2
theorem Tm.words_good (t:Tm):t.form=true→∀ s ∈ t.words,IsW s∧Asci s:=by
 induction t using Tm.ind with
 | h op num more kids ih =>
  intro hf s hs
  rw [Tm.form_mk,Bool.and_eq_true,List.all_eq_true] at hf
  have hk:∀ s ∈ kids.flatMap Tm.words,IsW s∧Asci s:=fun s hs=>by
   obtain ⟨k,hk,hs⟩:=List.mem_flatMap.1 hs
   exact ih k hk (hf.2 k hk) s hs
  rw [Tm.words_mk] at hs
  rcases List.mem_cons.1 hs with rfl | hs
  ·exact ⟨opWord_isW op,opWord_asc op⟩
  split at hs
  ·exact hk s hs
  ·split at hs
   ·rcases List.mem_cons.1 hs with rfl | hs
    ·exact ⟨isW_of (by decide) (by decide),by unfold Asci;decide⟩
    ·rcases List.mem_append.1 hs with hs | hs
     ·exact hk s hs
     ·rw [List.mem_singleton.1 hs];exact ⟨isW_of (by decide) (by decide),by unfold Asci;decide⟩
   ·rename_i h11 h9
    have hl:kids.length=0:=by
     have:=hf.1
     unfold formB at this
     rw [Bool.and_eq_true,Bool.and_eq_true] at this
     have h2:=this.2
     rw [if_neg (by omega)] at h2
     exact of_decide_eq_true h2
    have hn:=formB_num (hl ▸ hf.1)
    have hw:IsW (numWord num)∧Asci (numWord num):=⟨numWord_isW hn.1 hn.2,numWord_asc hn.1 hn.2⟩
    have hm:IsW (markWord num)∧Asci (markWord num):=⟨markWord_isW num,markWord_asc num⟩
    have hm2:IsW (markWord more)∧Asci (markWord more):=⟨markWord_isW more,markWord_asc more⟩
    unfold leafWords at hs
    split at hs
    ·cases hs
    ·split at hs
     ·rw [List.mem_singleton.1 hs];exact hm
     ·split at hs
      ·rcases List.mem_cons.1 hs with rfl | hs
       ·exact hw
       ·rw [List.mem_singleton.1 hs];exact hm2
      ·rw [List.mem_singleton.1 hs];exact hw
theorem joinW_asc:∀ ws:List ByteArray,(∀ s ∈ ws,Asci s)→Asci (joinW ws)
 | [],_=>fun b hb=>by cases hb
 | [a],h=>h a (List.mem_singleton.2 rfl)
 | a :: b :: l,h=>fun x hx=>by
  rw [joinW_list] at hx
  rcases List.mem_append.1 hx with hx | hx
  ·exact h a List.mem_cons_self x hx
  ·rcases List.mem_cons.1 hx with rfl | hx
   ·decide
   ·exact joinW_asc (b :: l) (fun s hs=>h s (List.mem_cons_of_mem _ hs)) x hx
theorem hsort_lt {l:List Rcd} (h:HSort l):∀ (j:Nat) (hj:j<l.length) (i:Nat) (hi:i<j),(l[i]'(by omega)).lt l[j]
 | 0,_,i,hi=>absurd hi (Nat.not_lt_zero _)
 | j+1,hj,i,hi=>by
  have h1:=h (j+1) hj (by omega)
  simp only [Nat.add_sub_cancel] at h1
  rcases Nat.lt_or_eq_of_le (Nat.le_of_lt_succ hi) with k | k
  ·exact Rcd.lt_trans (hsort_lt h j (by omega) i k) h1
  ·subst k;exact h1
theorem HistOk.filter {l:List Rcd} (h:HistOk l) (p:Rcd→Bool):HistOk (l.filter p):=by
 have h3:(l.filter p).Pairwise Rcd.lt:=List.Pairwise.filter p (List.pairwise_iff_getElem.2 fun i j hi hj k=>hsort_lt h.sort j hj i k)
 have h4:(l.filter p).Pairwise fun a b=>a.year=b.year→¬ Meet a.rects b.rects:=List.Pairwise.filter p (List.pairwise_iff_getElem.2 fun i j hi hj k e m=>h.lap ⟨i,j,hj,k,e,m⟩)
 exact ⟨Nat.le_trans (List.length_filter_le _ _) h.len,fun j hj _=>⟨h.mem (List.mem_filter.1 (List.getElem_mem hj)).1,fun h=>List.pairwise_iff_getElem.1 h3 (j - 1) j (by omega) hj (by omega)⟩,fun ⟨i,j,hj,hi,e,m⟩=>List.pairwise_iff_getElem.1 h4 i j (by omega) hj hi e m⟩
theorem fieldsW_any (t : Tm) (hk : chkT t = 0) (w : World) (htab : Lib.TabIs Tryz.prog w "strings.asciiSpace" .u8 Lib.asciiSpaceTab) :
  Calls Tryz.prog 36 #[.string (joinW t.words)] w fun e w'=>e=.returned (.slice (some ⟨w.heap.size,0,none⟩) t.words.length t.words.length)∧w'=w.alloc (.cells (strCells t.words).toArray 9):=by
 have hz:=chkT_zero hk
 have hg:=Tm.words_good t hz.2
 have hsm:=Tm.words_small t hz.2
 have hlen:t.words.length≤120:=by have:=Tm.words_len t;omega
 have hsz:=joinW_size hsm
 have hf:=fields_join t.words fun s hs=>(hg s hs).1
 have ha:=joinW_asc t.words fun s hs=>(hg s hs).2
 have hm:((Lib.fields (joinW t.words).data.toList).map fun l=>Value.string ⟨l.toArray⟩)=strCells t.words:=by
  rw [hf,List.map_map]
  rfl
 have hl:(Lib.fields (joinW t.words).data.toList).length=t.words.length:=by rw [hf,List.length_map]
 refine (Tryz.strings_Fields (joinW t.words) w (by omega) (fun j b hj=>ha b (List.mem_of_getElem? hj)) htab).mono fun e w' h=>?_
 rw [hl,hm] at h
 exact h
open Classical in
noncomputable def samB (t u:Tm):Bool:=decide (t=u)
open Classical in
noncomputable def samL (l m:List Tm):Bool:=decide (l=m)
theorem samB_yes {t u:Tm} (h:t=u):samB t u=true:=by simp [samB,h]
theorem samB_no {t u:Tm} (h:t ≠ u):samB t u=false:=by simp [samB,h]
theorem samL_yes {t u:List Tm} (h:t=u):samL t u=true:=by simp [samL,h]
theorem samL_no {t u:List Tm} (h:t ≠ u):samL t u=false:=by simp [samL,h]
theorem samB_mk {op num more:Int} {l m:List Tm}:samB (.mk op num more l) (.mk op num more m)=samL l m:=by
 by_cases h:l=m
 ·rw [samL_yes h,samB_yes (by rw [h])]
 ·rw [samL_no h,samB_no (by intro e;injection e;contradiction)]
def SamA (t:TmM):Prop:=∀ (u:TmM) (w:World),TmOk w t→TmOk w u→Calls Tryz.prog 37 #[.agg (encTm t).toArray,.agg (encTm u).toArray] w fun e w'=>e=.returned (.bool (samB t.pl u.pl))∧Below w.heap.size w w'
theorem maps_ne {l m:List TmM} {k:Nat} (h1:k<l.length) (h2:k<m.length) (h:l[k].pl ≠ m[k].pl):l.map TmM.pl ≠ m.map TmM.pl:=fun e=>h (by
 have e:(l.map TmM.pl)[k]? = (m.map TmM.pl)[k]?:=by rw [e]
 rw [List.getElem?_map,List.getElem?_map,List.getElem?_eq_getElem h1,List.getElem?_eq_getElem h2] at e
 simpa using e)
theorem maps_eq {l m:List TmM} (hl:l.length=m.length) (h:∀ i (h1:i<l.length) (h2:i<m.length),l[i].pl=m[i].pl):l.map TmM.pl=m.map TmM.pl:=by
 apply List.ext_getElem (by simpa using hl)
 intro i h1 h2
 rw [List.getElem_map,List.getElem_map]
 exact h i (by simpa using h1) (by simpa using h2)
theorem eqfunA (l m:List TmM) (ih:∀ t ∈ l,SamA t) (a1:Option Addr) (n1 c1:Nat) (a2:Option Addr) (n2 c2:Nat) (w:World) (h1:TmS w a1 n1 l) (h2:TmS w a2 n2 m) (hf:n1≤9223372036854775807) (hf2:n2≤9223372036854775807) :
  Calls Tryz.prog 74 #[.slice a1 n1 c1,.slice a2 n2 c2,.func (.func 37) #[] #[]] w fun e w'=>e=.returned (.bool (samL (l.map TmM.pl) (m.map TmM.pl)))∧Below w.heap.size w w':=by
 by_cases hn:¬ n1=n2
 ·rw [samL_no (fun e=>hn (by have:=congrArg List.length e;simp at this;rw [← h1.len,← h2.len,this]))]
  have hn1:¬ (n1:Int)=n2:=by omega
  clear h1 h2
  go_enter Tryz.func74,Tryz.ntmps74
  go_wp2
  go_ret
  exact ⟨rfl,Below.refl _ _⟩
 have hn:=Classical.not_not.1 hn
 subst hn
 have H1:=hid h1;have H2:=hid h2;have IH:=hid ih
 have eg:=en_same
 unfold Enters at eg
 clear h1 h2 ih
 go_enter Tryz.func74,Tryz.ntmps74
 go_wp2
 go_loopw [7,17] (fun _ i wr=>∃ k:Nat,k≤n1∧i=.int .i64 k∧(∀ i (h1:i<l.length) (h2:i<m.length),i<k→l[i].pl=m[i].pl)∧Below w.heap.size w wr) (fun _ i _=>n1 - (intOf i).toNat)
 case atStart=>exact ⟨0,Nat.zero_le _,rfl,fun i _ _ h=>absurd h (by omega),Below.refl _ _⟩
 case round =>
  obtain ⟨k,hk,rfl,hall,hb⟩:=hrel
  have HB:=hid hb
  have HALL:=hid hall
  have yb:=hb.size
  clear hb hall
  by_cases hlt:k<n1
  ·have k1:k<l.length:=by rw [H1.out.len];exact hlt
   have k2:k<m.length:=by rw [H2.out.len];exact hlt
   obtain ⟨b1,o1,rfl,hbl1,hrg1⟩:=H1.out.vw.range (k:=4) (fun x _=>encTm_len x) (by omega) k k1
   obtain ⟨b2,o2,rfl,hbl2,hrg2⟩:=H2.out.vw.range (k:=4) (fun x _=>encTm_len x) (by omega) k k2
   have R1:=hid (rangeAt_below hrg1 HB.out);have R2:=hid (rangeAt_below hrg2 HB.out)
   have HC:=hid fun W' (hW':Below wr.heap.size wr W')=>IH.out _ (List.getElem_mem k1) m[k] W' ((H1.out.ok _ (List.getElem_mem k1)).beh (btr HB.out hW')) ((H2.out.ok _ (List.getElem_mem k2)).beh (btr HB.out hW'))
   clear hrg1 hrg2
   by_cases heq:l[k].pl=m[k].pl
   ·have HA:RowKit.Hid (∀ i (h1:i<l.length) (h2:i<m.length),i<k+1→l[i].pl=m[i].pl):=hid fun i h1 h2 h=>by
     by_cases e:i=k
     ·subst e;exact heq
     ·exact HALL.out i h1 h2 (by omega)
    rw [samB_yes heq] at HC
    clear heq
    obtain ⟨t1,ht1⟩:∃ t1,l[k]=t1:=⟨_,rfl⟩
    obtain ⟨t2,ht2⟩:∃ t2,m[k]=t2:=⟨_,rfl⟩
    rw [ht1] at R1 HC
    rw [ht2] at R2 HC
    clear ht1 ht2
    obtain ⟨p0,p1,p2,p3,p4,p5,p6⟩:=t1
    obtain ⟨q0,q1,q2,q3,q4,q5,q6⟩:=t2
    dsimp only [encTm] at R1 R2 HC
    go_wp2_with (first
     | (refine wpList_load_mid rfl 24 (.tmp 20) rfl b1 (o1+k * 4) rfl [.int .i64 p0,.int .i64 p1,.int .i64 p2,.slice p3 p4 p5] _ R1.out Tryz.underlying24 rfl tmInfo ?_)
     | (refine wpList_load_mid rfl 24 (.tmp 24) rfl b2 (o2+k * 4) rfl [.int .i64 q0,.int .i64 q1,.int .i64 q2,.slice q3 q4 q5] _ (rangeAt_below R2.out Bw.out) Tryz.underlying24 rfl tmInfo ?_)
     | (refine st_new rfl 24 (.tmp 8) (.tmp 21) rfl #[.int .i64 p0,.int .i64 p1,.int .i64 p2,.slice p3 p4 p5] _ _ rfl rfl tmInfo rfl (sm_one _ _ _ _ _ _) ?_)
     | (refine st_new rfl 24 (.tmp 9) (.tmp 25) rfl #[.int .i64 q0,.int .i64 q1,.int .i64 q2,.slice q3 q4 q5] _ _ rfl rfl tmInfo rfl (sm_one _ _ _ _ _ _) ?_)
     | (refine wpList_load_row rfl 24 (.tmp 8) rfl wr.heap.size rfl _ #[.int .i64 p0,.int .i64 p1,.int .i64 p2,.slice p3 p4 p5] _ _ ((Blk.new _ _ _).alloc _) Tryz.underlying24 rfl tmInfo ?_)
     | (refine wpList_load_row rfl 24 (.tmp 9) rfl (wr.heap.size+1) rfl _ #[.int .i64 q0,.int .i64 q1,.int .i64 q2,.slice q3 q4 q5] _ _ (Blk.fresh (by simp)) Tryz.underlying24 rfl tmInfo ?_)
     | ((first | go_at_fn 37 | go_at_call 37);(with_reducible refine (HC.out _ Bw.out).mono ?_);rintro e w2 ⟨rfl,hb2⟩;have Q2:RowKit.Hid (Below wr.heap.size wr w2):=btr Bw.out hb2;clear hb2))
    go_roundw
    case rel=>exact ⟨k+1,by omega,by go_num,HA.out,btr HB.out Q2.out⟩
    case measure=>simp [intOf];omega
   ·have HA:=hid (samL_no (maps_ne k1 k2 heq))
    rw [samB_no heq] at HC
    clear heq
    obtain ⟨t1,ht1⟩:∃ t1,l[k]=t1:=⟨_,rfl⟩
    obtain ⟨t2,ht2⟩:∃ t2,m[k]=t2:=⟨_,rfl⟩
    rw [ht1] at R1 HC
    rw [ht2] at R2 HC
    clear ht1 ht2
    obtain ⟨p0,p1,p2,p3,p4,p5,p6⟩:=t1
    obtain ⟨q0,q1,q2,q3,q4,q5,q6⟩:=t2
    dsimp only [encTm] at R1 R2 HC
    go_wp2_with (first
     | (refine wpList_load_mid rfl 24 (.tmp 20) rfl b1 (o1+k * 4) rfl [.int .i64 p0,.int .i64 p1,.int .i64 p2,.slice p3 p4 p5] _ R1.out Tryz.underlying24 rfl tmInfo ?_)
     | (refine wpList_load_mid rfl 24 (.tmp 24) rfl b2 (o2+k * 4) rfl [.int .i64 q0,.int .i64 q1,.int .i64 q2,.slice q3 q4 q5] _ (rangeAt_below R2.out Bw.out) Tryz.underlying24 rfl tmInfo ?_)
     | (refine st_new rfl 24 (.tmp 8) (.tmp 21) rfl #[.int .i64 p0,.int .i64 p1,.int .i64 p2,.slice p3 p4 p5] _ _ rfl rfl tmInfo rfl (sm_one _ _ _ _ _ _) ?_)
     | (refine st_new rfl 24 (.tmp 9) (.tmp 25) rfl #[.int .i64 q0,.int .i64 q1,.int .i64 q2,.slice q3 q4 q5] _ _ rfl rfl tmInfo rfl (sm_one _ _ _ _ _ _) ?_)
     | (refine wpList_load_row rfl 24 (.tmp 8) rfl wr.heap.size rfl _ #[.int .i64 p0,.int .i64 p1,.int .i64 p2,.slice p3 p4 p5] _ _ ((Blk.new _ _ _).alloc _) Tryz.underlying24 rfl tmInfo ?_)
     | (refine wpList_load_row rfl 24 (.tmp 9) rfl (wr.heap.size+1) rfl _ #[.int .i64 q0,.int .i64 q1,.int .i64 q2,.slice q3 q4 q5] _ _ (Blk.fresh (by simp)) Tryz.underlying24 rfl tmInfo ?_)
     | ((first | go_at_fn 37 | go_at_call 37);(with_reducible refine (HC.out _ Bw.out).mono ?_);rintro e w2 ⟨rfl,hb2⟩;have Q2:RowKit.Hid (Below wr.heap.size wr w2):=btr Bw.out hb2;clear hb2))
    go_ret
    rw [HA.out]
    exact ⟨rfl,btr HB.out Q2.out⟩
  ·obtain rfl:k=n1:=by omega
   go_wp2
   go_ret
   rw [samL_yes (maps_eq (by rw [H1.out.len,H2.out.len]) fun i h1 h2=>HALL.out i h1 h2 (by have:=H1.out.len;omega))]
   exact ⟨rfl,HB.out⟩
theorem same_all (t:TmM):SamA t:=by
 induction t using TmM.ind with
 | h op num more a n c kids ih =>
  intro u w h1 h2
  obtain ⟨op',num',more',a',n',c',kids'⟩:=u
  rw [TmM.pl_mk,TmM.pl_mk]
  show Calls Tryz.prog _ #[.agg #[.int .i64 op,.int .i64 num,.int .i64 more,.slice a n c],.agg #[.int .i64 op',.int .i64 num',.int .i64 more',.slice a' n' c']] w _
  have HE:=hid fun W' (hW':Below w.heap.size w W')=>eqfunA kids kids' ih a n c a' n' c' W' ((TmS.mk h1.vw h1.len fun k hk=>h1.kid hk).below hW') ((TmS.mk h2.vw h2.len fun k hk=>h2.kid hk).below hW') h1.few h2.few
  clear h1 h2 ih
  obtain ⟨W,hW⟩:∃ W,(w.alloc (.cells #[.int .i64 op,.int .i64 num,.int .i64 more,.slice a n c] 24)).alloc (.cells #[.int .i64 op',.int .i64 num',.int .i64 more',.slice a' n' c'] 24)=W:=⟨_,rfl⟩
  have B1:RowKit.Hid (Blk W w.heap.size 24 #[.int .i64 op,.int .i64 num,.int .i64 more,.slice a n c]):=by show Blk _ _ _ _;rw [← hW];exact (Blk.new w _ _).alloc _
  have B2:RowKit.Hid (Blk W (w.heap.size+1) 24 #[.int .i64 op',.int .i64 num',.int .i64 more',.slice a' n' c']):=by show Blk _ _ _ _;rw [← hW];exact Blk.fresh (by simp)
  have BB:RowKit.Hid (Below w.heap.size w W):=by show Below _ _ _;rw [← hW];exact Bw.out
  have x0:W.cell? ⟨w.heap.size,0,none⟩=some (.int .i64 op):=B1.out.cell 0
  have x1:W.cell? ⟨w.heap.size,1,none⟩=some (.int .i64 num):=B1.out.cell 1
  have x2:W.cell? ⟨w.heap.size,2,none⟩=some (.int .i64 more):=B1.out.cell 2
  have x3:W.cell? ⟨w.heap.size,3,none⟩=some (.slice a n c):=B1.out.cell 3
  have z0:W.cell? ⟨w.heap.size+1,0,none⟩=some (.int .i64 op'):=B2.out.cell 0
  have z1:W.cell? ⟨w.heap.size+1,1,none⟩=some (.int .i64 num'):=B2.out.cell 1
  have z2:W.cell? ⟨w.heap.size+1,2,none⟩=some (.int .i64 more'):=B2.out.cell 2
  have z3:W.cell? ⟨w.heap.size+1,3,none⟩=some (.slice a' n' c'):=B2.out.cell 3
  by_cases e1:op=op'
  ·subst e1
   by_cases e2:num=num'
   ·subst e2
    by_cases e3:more=more'
    ·subst e3
     rw [samB_mk]
     obtain ⟨b,hb⟩:∃ b,samL (kids.map TmM.pl) (kids'.map TmM.pl)=b:=⟨_,rfl⟩
     rw [hb] at HE ⊢
     clear hb
     go_enter Tryz.func37,Tryz.ntmps37
     go_wp2_with (go_at_call 74;refine (HE.out _ BB.out).mono ?_;rintro e w2 ⟨rfl,hb2⟩)
     go_ret
     exact ⟨rfl,btr BB.out hb2⟩
    ·rw [samB_no (by intro e;injection e;contradiction)]
     go_enter Tryz.func37,Tryz.ntmps37
     go_wp2
     go_ret
     exact ⟨rfl,BB.out⟩
   ·rw [samB_no (by intro e;injection e;contradiction)]
    go_enter Tryz.func37,Tryz.ntmps37
    go_wp2
    go_ret
    exact ⟨rfl,BB.out⟩
  ·rw [samB_no (by intro e;injection e;contradiction)]
   go_enter Tryz.func37,Tryz.ntmps37
   go_wp2
   go_ret
   exact ⟨rfl,BB.out⟩
def RsmA (t:TmM):Prop:=∀ (u:TmM) (w:World),TmOk w t→TmOk w u→Calls Tryz.prog 43 #[.agg (encTm t).toArray,.agg (encTm u).toArray] w fun e w'=>e=.returned (.bool (samB t.pl u.pl))∧Below w.heap.size w w'
theorem rsame_tm (t:TmM):RsmA t:=by
 induction t using TmM.ind with
 | h op num more a n c kids ih =>
  intro u w h1 h2
  obtain ⟨op',num',more',a',n',c',kids'⟩:=u
  rw [TmM.pl_mk,TmM.pl_mk]
  show Calls Tryz.prog _ #[.agg #[.int .i64 op,.int .i64 num,.int .i64 more,.slice a n c],.agg #[.int .i64 op',.int .i64 num',.int .i64 more',.slice a' n' c']] w _
  obtain ⟨W,hW⟩:∃ W,(w.alloc (.cells #[.int .i64 op,.int .i64 num,.int .i64 more,.slice a n c] 24)).alloc (.cells #[.int .i64 op',.int .i64 num',.int .i64 more',.slice a' n' c'] 24)=W:=⟨_,rfl⟩
  have B1:RowKit.Hid (Blk W w.heap.size 24 #[.int .i64 op,.int .i64 num,.int .i64 more,.slice a n c]):=by show Blk _ _ _ _;rw [← hW];exact (Blk.new w _ _).alloc _
  have B2:RowKit.Hid (Blk W (w.heap.size+1) 24 #[.int .i64 op',.int .i64 num',.int .i64 more',.slice a' n' c']):=by show Blk _ _ _ _;rw [← hW];exact Blk.fresh (by simp)
  have BB:RowKit.Hid (Below w.heap.size w W):=by show Below _ _ _;rw [← hW];exact Bw.out
  have x0:W.cell? ⟨w.heap.size,0,none⟩=some (.int .i64 op):=B1.out.cell 0
  have x1:W.cell? ⟨w.heap.size,1,none⟩=some (.int .i64 num):=B1.out.cell 1
  have x2:W.cell? ⟨w.heap.size,2,none⟩=some (.int .i64 more):=B1.out.cell 2
  have x3:W.cell? ⟨w.heap.size,3,none⟩=some (.slice a n c):=B1.out.cell 3
  have z0:W.cell? ⟨w.heap.size+1,0,none⟩=some (.int .i64 op'):=B2.out.cell 0
  have z1:W.cell? ⟨w.heap.size+1,1,none⟩=some (.int .i64 num'):=B2.out.cell 1
  have z2:W.cell? ⟨w.heap.size+1,2,none⟩=some (.int .i64 more'):=B2.out.cell 2
  have z3:W.cell? ⟨w.heap.size+1,3,none⟩=some (.slice a' n' c'):=B2.out.cell 3
  have yW:=B2.out.lt
  have hf:=h1.few;have hf2:=h2.few
  by_cases e1:¬ op=op'
  ·rw [samB_no (by intro e;injection e;contradiction)]
   go_enter Tryz.func43,Tryz.ntmps43
   go_wp2
   go_ret
   exact ⟨rfl,BB.out⟩
  have e1:=Classical.not_not.1 e1
  subst e1
  by_cases e2:¬ num=num'
  ·rw [samB_no (by intro e;injection e;contradiction)]
   go_enter Tryz.func43,Tryz.ntmps43
   go_wp2
   go_ret
   exact ⟨rfl,BB.out⟩
  have e2:=Classical.not_not.1 e2
  subst e2
  by_cases e3:¬ more=more'
  ·rw [samB_no (by intro e;injection e;contradiction)]
   go_enter Tryz.func43,Tryz.ntmps43
   go_wp2
   go_ret
   exact ⟨rfl,BB.out⟩
  have e3:=Classical.not_not.1 e3
  subst e3
  rw [samB_mk]
  by_cases hn:¬ n=n'
  ·rw [samL_no (fun e=>hn (by have:=congrArg List.length e;simp at this;rw [← h1.len,← h2.len,this]))]
   have hn1:¬ (n:Int)=n':=by omega
   go_enter Tryz.func43,Tryz.ntmps43
   go_wp2
   go_ret
   exact ⟨rfl,BB.out⟩
  have hn:=Classical.not_not.1 hn
  subst hn
  have H1:=hid (TmS.mk h1.vw h1.len fun k hk=>h1.kid hk);have H2:=hid (TmS.mk h2.vw h2.len fun k hk=>h2.kid hk);have IH:=hid ih
  clear h1 h2 ih
  go_enter Tryz.func43,Tryz.ntmps43
  go_wp2
  go_loopw [37] (fun i wr=>∃ k:Nat,k≤n∧i=.int .i64 k∧(∀ i (h1:i<kids.length) (h2:i<kids'.length),i<k→kids[i].pl=kids'[i].pl)∧Below W.heap.size W wr) (fun i _=>n - (intOf i).toNat)
  case atStart=>exact ⟨0,Nat.zero_le _,rfl,fun i _ _ h=>absurd h (by omega),Below.refl _ _⟩
  case round =>
   obtain ⟨k,hk,rfl,hall,hb⟩:=hrel
   have HB:=hid hb
   have HALL:=hid hall
   have yb:=hb.size
   clear hb hall
   have X3:=hid (bc1 HB.out x3);have Z3:=hid (bc1 HB.out z3)
   have HBW:=hid (btr BB.out HB.out)
   clear x0 x1 x2 x3 z0 z1 z2 z3
   by_cases hlt:k<n
   ·have k1:k<kids.length:=by rw [H1.out.len];exact hlt
    have k2:k<kids'.length:=by rw [H2.out.len];exact hlt
    obtain ⟨b1,o1,rfl,hbl1,hrg1⟩:=H1.out.vw.range (k:=4) (fun x _=>encTm_len x) (by omega) k k1
    obtain ⟨b2,o2,rfl,hbl2,hrg2⟩:=H2.out.vw.range (k:=4) (fun x _=>encTm_len x) (by omega) k k2
    have R1:=hid (rangeAt_below hrg1 HBW.out);have R2:=hid (rangeAt_below hrg2 HBW.out)
    have HC:=hid fun W' (hW':Below wr.heap.size wr W')=>IH.out _ (List.getElem_mem k1) kids'[k] W' ((H1.out.ok _ (List.getElem_mem k1)).beh (btr HBW.out hW')) ((H2.out.ok _ (List.getElem_mem k2)).beh (btr HBW.out hW'))
    clear hrg1 hrg2
    by_cases heq:kids[k].pl=kids'[k].pl
    ·have HA:RowKit.Hid (∀ i (h1:i<kids.length) (h2:i<kids'.length),i<k+1→kids[i].pl=kids'[i].pl):=hid fun i h1 h2 h=>by
      by_cases e:i=k
      ·subst e;exact heq
      ·exact HALL.out i h1 h2 (by omega)
     rw [samB_yes heq] at HC
     clear heq
     obtain ⟨t1,ht1⟩:∃ t1,kids[k]=t1:=⟨_,rfl⟩
     obtain ⟨t2,ht2⟩:∃ t2,kids'[k]=t2:=⟨_,rfl⟩
     rw [ht1] at R1 HC
     rw [ht2] at R2 HC
     clear ht1 ht2
     obtain ⟨p0,p1,p2,p3,p4,p5,p6⟩:=t1
     obtain ⟨q0,q1,q2,q3,q4,q5,q6⟩:=t2
     dsimp only [encTm] at R1 R2 HC
     have c0:wr.cell? ⟨b1,o1+k * 4,none⟩=some (.int .i64 p0):=R1.out 0 _ rfl
     have c1:wr.cell? ⟨b1,o1+k * 4+1,none⟩=some (.int .i64 p1):=R1.out 1 _ rfl
     have c2:wr.cell? ⟨b1,o1+k * 4+2,none⟩=some (.int .i64 p2):=R1.out 2 _ rfl
     have c3:wr.cell? ⟨b1,o1+k * 4+3,none⟩=some (.slice p3 p4 p5):=R1.out 3 _ rfl
     have d0:wr.cell? ⟨b2,o2+k * 4,none⟩=some (.int .i64 q0):=R2.out 0 _ rfl
     have d1:wr.cell? ⟨b2,o2+k * 4+1,none⟩=some (.int .i64 q1):=R2.out 1 _ rfl
     have d2:wr.cell? ⟨b2,o2+k * 4+2,none⟩=some (.int .i64 q2):=R2.out 2 _ rfl
     have d3:wr.cell? ⟨b2,o2+k * 4+3,none⟩=some (.slice q3 q4 q5):=R2.out 3 _ rfl
     have CC:=hid (And.intro X3.out (And.intro Z3.out (And.intro c0 (And.intro c1 (And.intro c2 (And.intro c3 (And.intro d0 (And.intro d1 (And.intro d2 d3)))))))))
     clear c0 c1 c2 c3 d0 d1 d2 d3 R1 R2
     go_upto_region 6 with fail
     go_region_held3 (fun w'=>w'.cell? ⟨w.heap.size,3,none⟩=some (.slice (some ⟨b1,o1,none⟩) n c)∧w'.cell? ⟨w.heap.size+1,3,none⟩=some (.slice (some ⟨b2,o2,none⟩) n c')∧w'.cell? ⟨b1,o1+k * 4,none⟩=some (.int .i64 p0)∧w'.cell? ⟨b1,o1+k * 4+1,none⟩=some (.int .i64 p1)∧w'.cell? ⟨b1,o1+k * 4+2,none⟩=some (.int .i64 p2)∧w'.cell? ⟨b1,o1+k * 4+3,none⟩=some (.slice p3 p4 p5)∧w'.cell? ⟨b2,o2+k * 4,none⟩=some (.int .i64 q0)∧w'.cell? ⟨b2,o2+k * 4+1,none⟩=some (.int .i64 q1)∧w'.cell? ⟨b2,o2+k * 4+2,none⟩=some (.int .i64 q2)∧w'.cell? ⟨b2,o2+k * 4+3,none⟩=some (.slice q3 q4 q5)) (first | exact CC.out | (have A:=CC.out;exact ⟨bc1 Q2.out A.1,bc1 Q2.out A.2.1,bc1 Q2.out A.2.2.1,bc1 Q2.out A.2.2.2.1,bc1 Q2.out A.2.2.2.2.1,bc1 Q2.out A.2.2.2.2.2.1,bc1 Q2.out A.2.2.2.2.2.2.1,bc1 Q2.out A.2.2.2.2.2.2.2.1,bc1 Q2.out A.2.2.2.2.2.2.2.2.1,bc1 Q2.out A.2.2.2.2.2.2.2.2.2⟩))
      (first
       | (go_at_call 43;(with_reducible refine (HC.out _ Bw.out).mono ?_);rintro e w2 ⟨rfl,hb2⟩;have Q2:RowKit.Hid (Below wr.heap.size wr w2):=btr Bw.out hb2;clear hb2)
       | fail)
     go_wp2
     go_roundw
     case rel=>exact ⟨k+1,by omega,by go_num,HA.out,btr HB.out Q2.out⟩
     case measure=>simp [intOf];omega
    ·have HA:=hid (samL_no (maps_ne k1 k2 heq))
     rw [samB_no heq] at HC
     clear heq
     obtain ⟨t1,ht1⟩:∃ t1,kids[k]=t1:=⟨_,rfl⟩
     obtain ⟨t2,ht2⟩:∃ t2,kids'[k]=t2:=⟨_,rfl⟩
     rw [ht1] at R1 HC
     rw [ht2] at R2 HC
     clear ht1 ht2
     obtain ⟨p0,p1,p2,p3,p4,p5,p6⟩:=t1
     obtain ⟨q0,q1,q2,q3,q4,q5,q6⟩:=t2
     dsimp only [encTm] at R1 R2 HC
     have c0:wr.cell? ⟨b1,o1+k * 4,none⟩=some (.int .i64 p0):=R1.out 0 _ rfl
     have c1:wr.cell? ⟨b1,o1+k * 4+1,none⟩=some (.int .i64 p1):=R1.out 1 _ rfl
     have c2:wr.cell? ⟨b1,o1+k * 4+2,none⟩=some (.int .i64 p2):=R1.out 2 _ rfl
     have c3:wr.cell? ⟨b1,o1+k * 4+3,none⟩=some (.slice p3 p4 p5):=R1.out 3 _ rfl
     have d0:wr.cell? ⟨b2,o2+k * 4,none⟩=some (.int .i64 q0):=R2.out 0 _ rfl
     have d1:wr.cell? ⟨b2,o2+k * 4+1,none⟩=some (.int .i64 q1):=R2.out 1 _ rfl
     have d2:wr.cell? ⟨b2,o2+k * 4+2,none⟩=some (.int .i64 q2):=R2.out 2 _ rfl
     have d3:wr.cell? ⟨b2,o2+k * 4+3,none⟩=some (.slice q3 q4 q5):=R2.out 3 _ rfl
     have CC:=hid (And.intro X3.out (And.intro Z3.out (And.intro c0 (And.intro c1 (And.intro c2 (And.intro c3 (And.intro d0 (And.intro d1 (And.intro d2 d3)))))))))
     clear c0 c1 c2 c3 d0 d1 d2 d3 R1 R2
     go_upto_region 6 with fail
     go_region_held3 (fun w'=>w'.cell? ⟨w.heap.size,3,none⟩=some (.slice (some ⟨b1,o1,none⟩) n c)∧w'.cell? ⟨w.heap.size+1,3,none⟩=some (.slice (some ⟨b2,o2,none⟩) n c')∧w'.cell? ⟨b1,o1+k * 4,none⟩=some (.int .i64 p0)∧w'.cell? ⟨b1,o1+k * 4+1,none⟩=some (.int .i64 p1)∧w'.cell? ⟨b1,o1+k * 4+2,none⟩=some (.int .i64 p2)∧w'.cell? ⟨b1,o1+k * 4+3,none⟩=some (.slice p3 p4 p5)∧w'.cell? ⟨b2,o2+k * 4,none⟩=some (.int .i64 q0)∧w'.cell? ⟨b2,o2+k * 4+1,none⟩=some (.int .i64 q1)∧w'.cell? ⟨b2,o2+k * 4+2,none⟩=some (.int .i64 q2)∧w'.cell? ⟨b2,o2+k * 4+3,none⟩=some (.slice q3 q4 q5)) (first | exact CC.out | (have A:=CC.out;exact ⟨bc1 Q2.out A.1,bc1 Q2.out A.2.1,bc1 Q2.out A.2.2.1,bc1 Q2.out A.2.2.2.1,bc1 Q2.out A.2.2.2.2.1,bc1 Q2.out A.2.2.2.2.2.1,bc1 Q2.out A.2.2.2.2.2.2.1,bc1 Q2.out A.2.2.2.2.2.2.2.1,bc1 Q2.out A.2.2.2.2.2.2.2.2.1,bc1 Q2.out A.2.2.2.2.2.2.2.2.2⟩))
      (first
       | (go_at_call 43;(with_reducible refine (HC.out _ Bw.out).mono ?_);rintro e w2 ⟨rfl,hb2⟩;have Q2:RowKit.Hid (Below wr.heap.size wr w2):=btr Bw.out hb2;clear hb2)
       | fail)
     all_goals go_wp2
     all_goals go_ret
     all_goals rw [HA.out]
     all_goals exact ⟨rfl,btr HBW.out Q2.out⟩
   ·obtain rfl:k=n:=by omega
    go_wp2
    go_ret
    rw [samL_yes (maps_eq (by rw [H1.out.len,H2.out.len]) fun i h1 h2=>HALL.out i h1 h2 (by have:=H1.out.len;omega))]
    exact ⟨rfl,HBW.out⟩
end Go.Proofs.YtancajcelmhnkaaGreatDoor
