/- ref16.Parse at any words. (Printed by gen4/rpa.py.) -/
import Derived.Test.YtancajcelmhnkaaGreatDoorRa
import Derived.Test.YtancajcelmhnkaaGreatDoorRrb
import Derived.Test.YtancajcelmhnkaaGreatDoorRrc
import Derived.Test.YtancajcelmhnkaaGreatDoorRre
import Derived.Test.YtancajcelmhnkaaGreatDoorRrf
import Derived.Test.YtancajcelmhnkaaGreatDoorIf
import Derived.Test.YtancajcelmhnkaaGreatDoorHr
import Derived.Test.YtancajcelmhnkaaGreatDoorAwk
import Derived.Test.YtancajcelmhnkaaGreatDoorId
set_option maxRecDepth 100000
set_option maxHeartbeats 8000000
namespace Go.Proofs.YtancajcelmhnkaaGreatDoor
open Go.RowKit Go.Sort Go.Shelf
set_option linter.unusedVariables false
set_option linter.unusedSimpArgs false
theorem rf_all (n:Nat):Rf n:=by
 induction n with
 | zero =>
  intro ws hn h1 w a m c h
  obtain rfl:ws=[]:=List.eq_nil_of_length_eq_zero (by omega)
  obtain rfl:m=0:=h.len.symm
  exact rread_nil w a c
 | succ n ih =>
  intro ws hn h1 w a m c h
  cases ws with
  | nil =>
   obtain rfl:m=0:=h.len.symm
   exact rread_nil w a c
  | cons s rest =>
   have hop:=opV_le s
   have hr:rest.length≤n:=by simpa using hn
   have H:(opV s=0∨opV s=1∨opV s=11)∨opV s=4∨(opV s=2∨opV s=3∨opV s=5∨opV s=6∨opV s=8)∨opV s=7∨opV s=9∨opV s=10:=by omega
   rcases H with H | H | H | H | H | H
   ·exact rread_a n ih s rest hr h1 w a m c H h
   ·exact rread_m n ih s rest hr h1 w a m c H h
   ·exact rread_b n ih s rest hr h1 w a m c H h
   ·exact rread_c n ih s rest hr h1 w a m c H h
   ·exact rread_e n ih s rest hr h1 w a m c H h
   ·exact rread_f n ih s rest hr h1 w a m c H h
theorem rd_size (n:Nat):(∀ ws t r,ws.length≤n→Rd ws t r→t.size+r.length≤ws.length)∧(∀ ws ks r,ws.length≤n→Rl ws ks r→Tm.sizes ks+r.length+1≤ws.length):=by
 induction n with
 | zero =>
  refine ⟨fun ws t r hn h=>?_,fun ws ks r hn h=>?_⟩
  ·obtain rfl:ws=[]:=List.eq_nil_of_length_eq_zero (by omega)
   exact absurd h Rd.no_nil
  ·obtain rfl:ws=[]:=List.eq_nil_of_length_eq_zero (by omega)
   cases h with
   | cons _ k r ks r' h1 h2=>exact absurd h1 Rd.no_nil
 | succ n ih =>
  have A:∀ ws t r,ws.length≤n+1→Rd ws t r→t.size+r.length≤ws.length:=fun ws t r hn h=>by
   cases h with
   | one s ws h=>simp [Tm.size,Tm.sizes];omega
   | num s x ws op n h h' _=>simp [Tm.size,Tm.sizes];omega
   | mark s x ws m h _ _=>simp [Tm.size,Tm.sizes];omega
   | bef s x y ws n m h _ _ _=>simp [Tm.size,Tm.sizes];omega
   | not s ws k r h h2=>have:=ih.1 _ _ _ (by simpa using hn) h2;simp [Tm.size,Tm.sizes];omega
   | list s ws kids r op h h' h2=>have:=ih.2 _ _ _ (by simp at hn;omega) h2;simp [Tm.size];omega
  refine ⟨A,fun ws ks r hn h=>?_⟩
  cases h with
  | nil ws=>simp [Tm.sizes]
  | cons _ k r1 ks r' h1 h2 =>
   have e1:=(rd_less ws.length).1 ws k r1 (Nat.le_refl _) h1
   have e2:=ih.2 _ _ _ (by omega) h2
   have e3:=A _ _ _ hn h1
   simp only [Tm.sizes];omega
theorem Rd.size {ws t r} (h:Rd ws t r):t.size≤ws.length:=by
 have:=(rd_size ws.length).1 ws t r (Nat.le_refl _) h;omega
theorem c4b {w w':World} {g:Nat} {a b c d:Value} (h:w.cell? ⟨g,0,none⟩=some a∧w.cell? ⟨g,1,none⟩=some b∧w.cell? ⟨g,2,none⟩=some c∧w.cell? ⟨g,3,none⟩=some d) (hb:Below w.heap.size w w'):w'.cell? ⟨g,0,none⟩=some a∧w'.cell? ⟨g,1,none⟩=some b∧w'.cell? ⟨g,2,none⟩=some c∧w'.cell? ⟨g,3,none⟩=some d:=⟨bc1 hb h.1,bc1 hb h.2.1,bc1 hb h.2.2.1,bc1 hb h.2.2.2⟩
theorem rparse_all (ws:List ByteArray) (a:Option Addr) (n c:Nat) (w:World) (h:WsV w a n c ws) (hz:ws.length≤1000):Calls Tryz.prog 44 #[.slice a n c] w (PaP w ws):=by
 obtain ⟨W,hW⟩:∃ W,w.alloc (.cells #[.int .i64 0,.int .i64 0,.int .i64 0,.slice none 0 0] 24)=W:=⟨_,rfl⟩
 have B0:RowKit.Hid (Blk W w.heap.size 24 #[.int .i64 0,.int .i64 0,.int .i64 0,.slice none 0 0]):=by show Blk _ _ _ _;rw [← hW];exact Blk.new w _ _
 have BB:RowKit.Hid (Below w.heap.size w W):=by show Below _ _ _;rw [← hW];exact Bw.out
 have HR:=hid (rf_all ws.length ws (Nat.le_refl _) hz W a n c (h.below BB.out))
 have HZ:=hid hz
 have yb:=BB.out.size
 have yW:=B0.out.lt
 clear h hz
 go_enter Tryz.func44,Tryz.ntmps44
 go_upto_region 2 with (first
  | (go_at_call 83;(with_reducible refine HR.out.mono ?_);rintro e w2 ⟨⟨op,num,more,a1,n1,c1,kids⟩,a2,n2,c2,ok,rfl,hyes,hno,hb⟩;have HY:=hid hyes;have HN:=hid hno;have B2:=hid (B0.out.below hb);have H2:RowKit.Hid (Below w.heap.size w w2):=hid (btr BB.out hb);have y2:=hb.size;dsimp only [encTm];clear hyes hno hb)
  | (refine st_new rfl 24 (.tmp 5) (.tmp 12) rfl #[.int .i64 op,.int .i64 num,.int .i64 more,.slice a1 n1 c1] _ _ rfl rfl tmInfo rfl (tm_one _ _ _ _ _ _) ?_))
 have BA:RowKit.Hid (Below w2.heap.size w2 (w2.alloc (.cells #[.int .i64 op,.int .i64 num,.int .i64 more,.slice a1 n1 c1] 24))):=hid (by show Below _ _ _;exact Bw.out)
 have B3:=hid (B2.out.below BA.out)
 have H3:RowKit.Hid (Below w.heap.size w (w2.alloc (.cells #[.int .i64 op,.int .i64 num,.int .i64 more,.slice a1 n1 c1] 24))):=hid (btr H2.out BA.out)
 cases ok with
 | false =>
  have HN':=hid (HN.out rfl)
  go_wp2_with (refine wpList_store_row rfl 24 (.tmp 2) (.tmp 17) rfl w.heap.size #[.int .i64 0,.int .i64 0,.int .i64 0,.slice none 0 0] rfl rfl _ _ B3.out tmInfo rfl (tm_one _ _ _ _ _ _) ?_)
  have B9:=setRow_heap (w2.alloc (.cells #[.int .i64 op,.int .i64 num,.int .i64 more,.slice a1 n1 c1] 24)) w.heap.size _ #[.int .i64 0,.int .i64 0,.int .i64 0,.slice none 0 0] _ _ B3.out
  refine bodyPost_ret (v:=.tuple #[.agg #[.int .i64 0,.int .i64 0,.int .i64 0,.slice none 0 0],.slice none 0 0,.int .i64 4]) (by simp [results,Tryz.results44,go_sem,Blk.cell B9]) rfl ?_
  exact ⟨.mk 0 0 0 none 0 0 [],none,0,0,[],4,rfl,.inr ⟨zeroPl,rfl,.inr ⟨HN'.out,rfl⟩⟩,leafOk,Vw.nil _ _,rfl,Nat.le_refl _,Nat.zero_le _,below_setRow H3.out (Nat.le_refl _) _⟩
 | true =>
  obtain ⟨r2,q1,q2,q3,q4,q5,q6⟩:=HY.out rfl
  obtain rfl:=q3.len
  have OK2:=hid q1;have FR2:=hid q2;have WR2:=hid q3;have HY':=hid q4
  have hsz:(TmM.mk op num more a1 n1 c1 kids).pl.size≤1000:=by have:=q4.size;have:=HZ.out;omega
  have hrl:r2.length≤1000:=by have:=q5.length_le;have:=HZ.out;omega
  have HCK:=hid fun W' (hW':Below w2.heap.size w2 W')=>rcheck_any (.mk op num more a1 n1 c1 kids) W' (OK2.out.beh hW') (by omega)
  obtain ⟨ck,hck⟩:∃ k,chkT (TmM.mk op num more a1 n1 c1 kids).pl=k:=⟨_,rfl⟩
  rw [hck] at HCK
  have HCKE:=hid hck
  clear hck q1 q2 q3 q4 q5 q6 hsz
  obtain ⟨m,hm⟩:∃ m,r2.length=m:=⟨_,rfl⟩
  have HM:=hid hm
  rw [hm] at WR2 hrl ⊢
  clear hm
  by_cases hk0:ck=0
  ·subst hk0
   go_wp2_with (first
    | (refine wpList_load_row rfl 24 (.tmp 5) rfl w2.heap.size rfl _ #[.int .i64 op,.int .i64 num,.int .i64 more,.slice a1 n1 c1] _ _ (Blk.new _ _ _) Tryz.underlying24 rfl tmInfo ?_)
    | (go_at_call 41;refine (HCK.out _ BA.out).mono ?_;rintro e w4 ⟨rfl,hb4⟩;have BN4:=hid ((Blk.new w2 24 #[.int .i64 op,.int .i64 num,.int .i64 more,.slice a1 n1 c1]).below hb4);have HB4:RowKit.Hid (Below w2.heap.size w2 w4):=hid (btr BA.out hb4);clear hb4))
   have q0:w4.cell? ⟨w2.heap.size,0,none⟩=some (.int .i64 op):=BN4.out.cell 0
   have q1:w4.cell? ⟨w2.heap.size,1,none⟩=some (.int .i64 num):=BN4.out.cell 1
   have q2:w4.cell? ⟨w2.heap.size,2,none⟩=some (.int .i64 more):=BN4.out.cell 2
   have q3:w4.cell? ⟨w2.heap.size,3,none⟩=some (.slice a1 n1 c1):=BN4.out.cell 3
   have VR:=hid (WR2.out.below HB4.out)
   have B4:=hid (B2.out.below HB4.out)
   have y4:=HB4.out.size
   have LM:RowKit.Hid ((strCells r2).length=m * 1):=by have:=HM.out;show (strCells r2).length=_;simp [strCells,this]
   have AN:RowKit.Hid (a2=none→m=0):=hid fun e=>by
    have hv:=VR.out.vw
    cases r2 with
    | nil=>exact HM.out.symm
    | cons s r=>obtain ⟨_,_,e2,_⟩:=hv 0 (.string s) rfl;rw [e] at e2;cases e2
   have CC:=hid (And.intro q0 (And.intro q1 (And.intro q2 q3)))
   clear q0 q1 q2 q3
   go_upto_region 7 with fail
   go_region_held3 (fun w'=>w'.cell? ⟨w2.heap.size,0,none⟩=some (.int .i64 op)∧w'.cell? ⟨w2.heap.size,1,none⟩=some (.int .i64 num)∧w'.cell? ⟨w2.heap.size,2,none⟩=some (.int .i64 more)∧w'.cell? ⟨w2.heap.size,3,none⟩=some (.slice a1 n1 c1)) (with_reducible first | exact CC.out | exact c4b CC.out (bal (Below.refl _ _) _) | exact c4b CC.out (bdr (Below.refl _ _)) | exact c4b CC.out (bal (bdr (Below.refl _ _)) _) | exact c4b CC.out (bdr (bal (Below.refl _ _) _)) | exact c4b CC.out (bdr (bdr (bal (Below.refl _ _) _))) | exact c4b CC.out (bdr (bal (bdr (Below.refl _ _)) _)) | exact c4b CC.out k1.out | exact c4b CC.out (bdr k1.out) | exact c4f (by omega) (c4b CC.out k1.out) | exact c4fd (by omega) (c4b CC.out k1.out))
    (first
     | (refine app_step elStr (by rfl) _ _ (by rfl) w4.heap.size (.slice (some ⟨w4.heap.size,0,none⟩) 0 0) 0 [] (by rfl) (own_lit0 (t:=9) (by first | exact Blk.fresh (by simp) | exact (Blk.fresh (by simp)).drew | exact (Blk.fresh (by simp)).alloc _ | exact ((Blk.fresh (by simp)).alloc _).drew) (Nat.le_refl _)) _ m _ (strCells r2) (by rfl) (VR.out.vw.below (by (repeat (with_reducible first | exact Below.refl _ _ | refine bdr ?_ | refine bal ?_ _)))) AN.out LM.out (oneC_str _) (by omega) (by (simp <;> omega)) ?_;intro v1 w5 hown1 hg1 hat1;have k1:RowKit.Hid (Below w4.heap.size w4 w5):=hid (Below.grown (by (repeat (with_reducible first | exact Below.refl _ _ | refine bdr ?_ | refine bal ?_ _))) hg1 (by (simp <;> omega)) (by intro q hq;simp [Value.ownBlock] at hq;omega));have HO:=hid hown1;have BR1:=hid (B4.out.below k1.out);have z0:w5.cell? ⟨w.heap.size,0,none⟩=some (.int .i64 0):=BR1.out.cell 0;have z1:w5.cell? ⟨w.heap.size,1,none⟩=some (.int .i64 0):=BR1.out.cell 1;have z2:w5.cell? ⟨w.heap.size,2,none⟩=some (.int .i64 0):=BR1.out.cell 2;have z3:w5.cell? ⟨w.heap.size,3,none⟩=some (.slice none 0 0):=BR1.out.cell 3;have f0:=BR1.out.free 0;have f1:=BR1.out.free 1;have f2:=BR1.out.free 2;have f3:=BR1.out.free 3;have zl:=BR1.out.lt;clear hown1 hg1 hat1)
     | fail)
   all_goals
    go_wp2
    obtain ⟨a9,c9,rfl,h9,h9',h9f⟩:=own_form HO.out
    have B9:=Blk.put4 (v0:=.int .i64 op) (v1:=.int .i64 num) (v2:=.int .i64 more) (v3:=.slice a1 n1 c1) BR1.out rfl
    have KX:Kept (fun k=>k=w.heap.size) w5 ((((w5.setCell ⟨w.heap.size,0,none⟩ (.int .i64 op)).setCell ⟨w.heap.size,1,none⟩ (.int .i64 num)).setCell ⟨w.heap.size,2,none⟩ (.int .i64 more)).setCell ⟨w.heap.size,3,none⟩ (.slice a1 n1 c1)):=((((Kept.refl (fun k=>k=w.heap.size) w5).set rfl).set rfl).set rfl).set rfl
    refine bodyPost_ret (v:=.tuple #[.agg #[.int .i64 op,.int .i64 num,.int .i64 more,.slice a1 n1 c1],.slice a9 (0+m) c9,.int .i64 0]) (by simp [results,Tryz.results44,go_sem,Blk.cell B9]) rfl ?_
    have HBX:Below w.heap.size w w5:=(btr (btr H2.out HB4.out) k1.out)
    refine ⟨(.mk op num more a1 n1 c1 kids),a9,0+m,c9,r2,0,rfl,.inl ⟨HY'.out,HCKE.out,rfl⟩,tmOk_kept (OK2.out.beh (btr HB4.out k1.out)) FR2.out KX (by omega),?_,by rw [HM.out,Nat.zero_add],h9,h9',HBX.trans (KX.toBelow HBX.size fun i hi=>by show ¬ i=w.heap.size;omega)⟩
    refine KX.vw (by simpa using vw_of_own HO.out) fun b off e=>?_
    rcases h9f with ⟨h,-⟩ | ⟨g,h,h',-⟩
    ·rw [h] at e;cases e
    ·rw [h] at e;cases e;show ¬ _=_;omega
  ·have hk1:(ck == 0)=false:=by simpa using hk0
   go_wp2_with (first
    | (refine wpList_load_row rfl 24 (.tmp 5) rfl w2.heap.size rfl _ #[.int .i64 op,.int .i64 num,.int .i64 more,.slice a1 n1 c1] _ _ (Blk.new _ _ _) Tryz.underlying24 rfl tmInfo ?_)
    | (go_at_call 41;refine (HCK.out _ BA.out).mono ?_;rintro e w4 ⟨rfl,hb4⟩;have B4:=hid (B3.out.below hb4);have H4:RowKit.Hid (Below w.heap.size w w4):=hid (btr H3.out hb4);clear hb4)
    | (refine wpList_store_row rfl 24 (.tmp 2) (.tmp 22) rfl w.heap.size #[.int .i64 0,.int .i64 0,.int .i64 0,.slice none 0 0] rfl rfl _ _ B4.out tmInfo rfl (tm_one _ _ _ _ _ _) ?_))
   have B9:=setRow_heap w4 w.heap.size _ #[.int .i64 0,.int .i64 0,.int .i64 0,.slice none 0 0] _ _ B4.out
   refine bodyPost_ret (v:=.tuple #[.agg #[.int .i64 0,.int .i64 0,.int .i64 0,.slice none 0 0],.slice none 0 0,.int .i64 ck]) (by simp [results,Tryz.results44,go_sem,Blk.cell B9]) rfl ?_
   exact ⟨.mk 0 0 0 none 0 0 [],none,0,0,[],ck,rfl,.inr ⟨zeroPl,rfl,.inl ⟨_,_,HY'.out,HCKE.out,hk0⟩⟩,leafOk,Vw.nil _ _,rfl,Nat.le_refl _,Nat.zero_le _,below_setRow H4.out (Nat.le_refl _) _⟩
theorem isRow_bel {k:IntKind} {w w':World} {a:Option Addr} {len cap:Nat} {zs:List Int} (h:IsRow k w a len cap zs) (hb:Below w.heap.size w w'):IsRow k w' a len cap zs:=by
 rcases h with h | ⟨x,h1,h2,h3,h4,h5,h6⟩
 ·exact .inl h
 ·refine .inr ⟨x,h1,h2,h3,h4,fun i hi=>?_,h6⟩
  have hc:=h5 i hi
  exact (World.cell?_of_block (hb.block _ (World.block_lt_of_cell? w _ hc))).trans hc
theorem blk_rngA {w:World} {g:Nat} {T:TypeId} {L:List TmM} (h:Blk w g T (cellsOf encTm L).toArray) {k:Nat} (hk:k<L.length):w.rangeAt g (k * 4) (encTm L[k]):=by
 have hV:Vw w (some ⟨g,0,none⟩) (cellsOf encTm L):=fun i v hi=>⟨g,0,rfl,by rw [Nat.zero_add,h.cell i];simpa using hi⟩
 obtain ⟨b,off,e,-,hr⟩:=hV.range (k:=4) (fun x _=>encTm_len x) (by omega) k hk
 cases e
 simpa using hr
theorem rd_suf (n:Nat):(∀ ws t r,ws.length≤n→Rd ws t r→r <:+ ws)∧(∀ ws ks r,ws.length≤n→Rl ws ks r→r <:+ ws):=by
 induction n with
 | zero =>
  refine ⟨fun ws t r hn h=>?_,fun ws ks r hn h=>?_⟩
  ·obtain rfl:ws=[]:=List.eq_nil_of_length_eq_zero (by omega)
   exact absurd h Rd.no_nil
  ·obtain rfl:ws=[]:=List.eq_nil_of_length_eq_zero (by omega)
   cases h with
   | cons _ k r ks r' h1 h2=>exact absurd h1 Rd.no_nil
 | succ n ih =>
  have A:∀ ws t r,ws.length≤n+1→Rd ws t r→r <:+ ws:=fun ws t r hn h=>by
   cases h with
   | one s ws h=>exact List.suffix_cons _ _
   | num s x ws op n h h' _=>exact (List.suffix_cons _ _).trans (List.suffix_cons _ _)
   | mark s x ws m h _ _=>exact (List.suffix_cons _ _).trans (List.suffix_cons _ _)
   | bef s x y ws n m h _ _ _=>exact ((List.suffix_cons _ _).trans (List.suffix_cons _ _)).trans (List.suffix_cons _ _)
   | not s ws k r h h2=>exact (ih.1 _ _ _ (by simpa using hn) h2).trans (List.suffix_cons _ _)
   | list s ws kids r op h h' h2=>exact ((ih.2 _ _ _ (by simp at hn;omega) h2).trans (List.suffix_cons _ _)).trans (List.suffix_cons _ _)
  refine ⟨A,fun ws ks r hn h=>?_⟩
  cases h with
  | nil ws=>exact List.suffix_cons _ _
  | cons _ k r1 ks r' h1 h2 =>
   have e1:=h1.less
   exact (ih.2 _ _ _ (by omega) h2).trans (A _ _ _ hn h1)
theorem PaR.suf {ws:List ByteArray} {t:Tm} {rest:List ByteArray} {er:Int} (h:PaR ws t rest er):rest <:+ ws:=by
 rcases h with ⟨h,_⟩ | ⟨_,rfl,_⟩
 ·exact (rd_suf ws.length).1 _ _ _ (Nat.le_refl _) h
 ·exact List.nil_suffix
theorem str_at {l:List ByteArray} {i:Nat} {s:ByteArray} (h:l[i]? = some s):(strCells l)[i]? = some (.string s):=by rw [strCells,List.getElem?_map,h];rfl
theorem parseV (ws:List ByteArray) (a:Option Addr) (n c:Nat) (w:World) (h:WsV w a n c ws) (hsp:a=none∨∃ b off:Nat,a=some ⟨b,off,none⟩) (hz:ws.length≤1000) (hsz:∀ s ∈ ws,s.size≤1000) (hN:NumW w):Calls Tryz.prog 35 #[.slice a n c] w (PaP w ws):=by
 have h0:0<w.heap.size:=by
  obtain ⟨ev,e1,_⟩:=hN.syn
  have:=World.block_lt_of_cell? w _ e1
  omega
 rcases hsp with rfl | ⟨b,off,rfl⟩
 ·have e:ws=[]:=by
   cases ws with
   | nil=>rfl
   | cons s r=>obtain ⟨_,_,e,_⟩:=h.vw 0 (.string s) rfl;cases e
  subst e
  exact parse_all [] 0 none n c w (fun i s hi=>by simp at hi) h.len h.cap h.big h0 hz hsz hN (.inl rfl)
 ·by_cases hb:b<w.heap.size
  ·exact parse_all ws b _ n c w (fun i s hi=>by
    obtain ⟨b',o',e,hc⟩:=h.vw i (.string s) (str_at hi)
    cases e
    exact ⟨_,rfl,hc⟩) h.len h.cap h.big hb hz hsz hN (.inr ⟨_,_,rfl⟩)
  ·have e:ws=[]:=by
    cases ws with
    | nil=>rfl
    | cons s r=>obtain ⟨b',o',e,hc⟩:=h.vw 0 (.string s) rfl;cases e;exact absurd (World.block_lt_of_cell? w _ hc) hb
   subst e
   exact parse_all [] 0 _ n c w (fun i s hi=>by simp at hi) h.len h.cap h.big h0 hz hsz hN (.inr ⟨_,_,rfl⟩)
theorem join_len (l:List (List UInt8)) (h:∀ s ∈ l,s.length≤1000):(Lib.join l [32]).length≤1001 * l.length:=by
 cases l with
 | nil=>simp [Lib.join,List.intercalate]
 | cons x r =>
  rw [Lib.join_cons]
  have hx:=h x List.mem_cons_self
  have key:∀ r:List (List UInt8),(∀ s ∈ r,s.length≤1000)→(Lib.joinTail [32] r).length≤1001 * r.length:=by
   intro r
   induction r with
   | nil=>intro _;simp [Lib.joinTail]
   | cons y r ih =>
    intro hr
    have h1:=hr y List.mem_cons_self
    have h2:=ih fun s hs=>hr s (List.mem_cons_of_mem _ hs)
    simp only [Lib.joinTail,List.map_cons,List.flatten_cons,List.length_append,List.length_cons,List.length_nil] at h2 ⊢
    omega
  have:=key r fun s hs=>h s (List.mem_cons_of_mem _ hs)
  rw [List.length_append,List.length_cons];omega
def joinB (l:List ByteArray):ByteArray:=⟨(Lib.join (l.map (·.data.toList)) [32]).toArray⟩
theorem joinV (a:Option Addr) (n c:Nat) (l:List ByteArray) (w:World) (hv:Vw w a (strCells l)) (hl:l.length=n) (hc:n≤c) (hz:l.length≤1000) (hsz:∀ s ∈ l,s.size≤1000):Calls Tryz.prog 45 #[.slice a n c,.string ⟨#[32]⟩] w fun e w'=>e=.returned (.string (joinB l))∧Below w.heap.size w w':=by
 subst hl
 cases l with
 | nil=>exact (Tryz.strings_Join_none a c ⟨#[32]⟩ w).mono fun e w' ⟨he,hw⟩=>⟨by rw [he];rfl,hw ▸ Below.refl _ _⟩
 | cons s r =>
  obtain ⟨b,off,e,h0⟩:=hv 0 (.string s) rfl
  cases e
  refine Tryz.strings_Join b off c (s :: r) ⟨#[32]⟩ w (fun j x hj=>?_) (World.block_lt_of_cell? w _ h0) (by omega) hc ?_
  ·obtain ⟨b',o',e,hc⟩:=hv j (.string x) (str_at hj)
   cases e;exact hc
  ·have:=join_len ((s :: r).map (·.data.toList)) (fun x hx=>by
    obtain ⟨y,hy,rfl⟩:=List.mem_map.1 hx
    have:=hsz y hy
    show y.data.toList.length≤1000
    rw [Array.length_toList]
    exact this)
   rw [List.length_map] at this
   show (Lib.join _ [32]).length≤_
   omega
structure AnL (b gb gt:Nat) (w wx:World) (L:List TmM) (tb:TmM):Prop where
 below:Below w.heap.size w wx
 tape:Tape wx b
 bl:Blk wx gb 24 (encTm tb).toArray
 tm:Blk wx gt 24 (cellsOf encTm L).toArray
 ok:∀ t ∈ L,TmOk wx t∧t.pl.size≤2147483647
 bok:TmOk wx tb
 bz:tb.pl.size≤2147483647
 bchk:chkT tb.pl=0
 len:L.length=3
theorem AnL.bel {b gb gt:Nat} {w wx wy:World} {L:List TmM} {tb:TmM} (h:AnL b gb gt w wx L tb) (k:Below wx.heap.size wx wy):AnL b gb gt w wy L tb :=
 ⟨btr h.below k,h.tape.below k,h.bl.below k,h.tm.below k,fun t ht=>⟨(h.ok t ht).1.beh k,(h.ok t ht).2⟩,h.bok.beh k,h.bz,h.bchk,h.len⟩
structure WdL (w:World) (a:Option Addr) (n c:Nat) (l:List ByteArray):Prop where
 v:WsV w a n c l
 sp:a=none∨∃ b off:Nat,a=some ⟨b,off,none⟩
 few:l.length≤1000
 small:∀ s ∈ l,s.size≤1000
theorem WdL.below {w w':World} {a:Option Addr} {n c:Nat} {l:List ByteArray} (h:WdL w a n c l) (hb:Below w.heap.size w w'):WdL w' a n c l:=⟨h.v.below hb,h.sp,h.few,h.small⟩
theorem WsV.blk {w:World} {g:Nat} {l:List ByteArray} {cs:Array Value} {n:Nat} (h:Blk w g 9 cs) (e:cs=(strCells l).toArray) (hn:l.length=n) (hb:n≤9223372036854775807):WsV w (some ⟨g,0,none⟩) n n l :=
 ⟨fun i v hi=>⟨g,0,rfl,by rw [Nat.zero_add,h.cell i,e];simpa using hi⟩,hn,Nat.le_refl _,hb⟩
theorem WsV.of_own {w:World} {base:Nat} {a:Option Addr} {n c:Nat} {l:List ByteArray} (h:w.ownsRow base 9 1 (.slice a n c) n (strCells l)):WsV w a n c l:=by
 obtain ⟨a',c',e,h1,h2,_⟩:=own_form h
 cases e
 refine ⟨vw_of_own h,?_,h1,by unfold maxLen at h2;omega⟩
 have:=h.1
 simpa [strCells] using this
theorem WsV.cut {w:World} {a:Option Addr} {n c k:Nat} {l:List ByteArray} (h:WsV w a n c l) (hk:k≤n):WsV w a k c (l.take k):=by
 have h1:=h.len;have h2:=h.cap
 refine ⟨fun i v hi=>h.vw i v ?_,by rw [List.length_take];omega,by omega,h.big⟩
 rw [strCells,List.map_take] at hi
 rw [List.getElem?_take] at hi
 split at hi
 ·exact hi
 ·cases hi
theorem own_word {w:World} {base g n c p:Nat} {l:List ByteArray} (s:ByteArray) (h:w.ownsRow base 9 1 (.slice (some ⟨g,0,none⟩) n c) n (strCells l)) (hp:p<n):WsV (w.setCell ⟨g,p,none⟩ (.string s)) (some ⟨g,0,none⟩) n c (l.set p s):=by
 have h0:=WsV.of_own h
 rcases h.2 with ⟨e,_⟩ | ⟨g',cap,cur,e,_,hh,_⟩
 ·cases e
 ·cases e
  have hB:Blk w g 9 cur:=hh
  refine ⟨fun i v hi=>⟨g,0,rfl,?_⟩,by rw [List.length_set];exact h0.len,h0.cap,h0.big⟩
  rw [Nat.zero_add,(hB.put p (.string s)).cell i,Array.getElem?_setIfInBounds]
  rw [strCells,List.map_set,List.getElem?_set] at hi
  have hl:l.length=n:=h0.len
  by_cases e:p=i
  ·subst e
   rw [if_pos rfl,if_pos (by simpa [hl] using hp)] at hi
   have hlt:p<cur.size:=by
    obtain ⟨b',o',e',hc⟩:=h0.vw p (.string l[p]) (str_at (List.getElem?_eq_getElem (by omega)))
    cases e'
    rw [Nat.zero_add,hB.cell p] at hc
    exact (Array.getElem?_eq_some_iff.1 hc).1
   rw [if_pos rfl,if_pos hlt]
   exact hi
  ·rw [if_neg e] at hi ⊢
   obtain ⟨b',o',e',hc⟩:=h0.vw i v hi
   cases e'
   rwa [Nat.zero_add,hB.cell i] at hc
theorem own_there1 {w:World} {base g n c p:Nat} {l:List ByteArray} (h:w.ownsRow base 9 1 (.slice (some ⟨g,0,none⟩) n c) n (strCells l)) (hp:p<n):∃ s,w.cell? ⟨g,p,none⟩=some (.string s)∧w.frozen? ⟨g,p,none⟩=false∧g<w.heap.size∧base≤g:=by
 have h0:=WsV.of_own h
 have hl:=h0.len
 rcases h.2 with ⟨e,_⟩ | ⟨g',cap,cur,e,hb,hh,_⟩
 ·cases e
 ·cases e
  have hB:Blk w g 9 cur:=hh
  obtain ⟨b',o',e',hc⟩:=h0.vw p (.string l[p]) (str_at (List.getElem?_eq_getElem (by omega)))
  cases e'
  rw [Nat.zero_add] at hc
  exact ⟨_,hc,hB.free p,hB.lt,hb⟩
theorem at8 {w:World} {g g':Nat} {t t':TypeId} {a b c d a' b' c' d':Value} (h:Blk w g t #[a,b,c,d]) (k:Blk w g' t' #[a',b',c',d']):w.cell? ⟨g,0,none⟩=some a∧w.cell? ⟨g,1,none⟩=some b∧w.cell? ⟨g,2,none⟩=some c∧w.cell? ⟨g,3,none⟩=some d∧w.cell? ⟨g',0,none⟩=some a'∧w.cell? ⟨g',1,none⟩=some b'∧w.cell? ⟨g',2,none⟩=some c'∧w.cell? ⟨g',3,none⟩=some d':=⟨h.cell 0,h.cell 1,h.cell 2,h.cell 3,k.cell 0,k.cell 1,k.cell 2,k.cell 3⟩
def tenL:List ByteArray:=[⟨#[40]⟩,⟨#[41]⟩,⟨#[97,110,100]⟩,⟨#[49]⟩,⟨#[108]⟩,⟨#[110,111,116]⟩,⟨#[48,55]⟩,⟨#[116,114,117,101]⟩,⟨#[98,101,102,111,114,101]⟩,⟨#[120]⟩]
theorem ten_at (q:Nat) (h:q<10):∃ s:ByteArray,(strCells tenL).toArray[q]? = some (.string s)∧s.size≤1000:=by
 have hl:q<tenL.length:=h
 refine ⟨tenL[q],by rw [List.getElem?_toArray];exact str_at (List.getElem?_eq_getElem hl),?_⟩
 have:∀ s ∈ tenL,s.size≤1000:=by decide
 exact this _ (List.getElem_mem hl)
def lit1:List ByteArray:=[⟨#[97,110,100]⟩,⟨#[40]⟩,⟨#[41]⟩]
def lit2:List ByteArray:=[⟨#[99,114,111,112]⟩,⟨#[57,57,57,57,57,57,57,57,57,57,57,57,57,57,57,57,57,57,57,57]⟩]
def lit3:List ByteArray:=[⟨#[122,111,110,101]⟩,⟨#[45,49]⟩]
theorem printV_ok {t:Tm} (h:chkT t=0):printV t=joinW t.words:=by unfold printV;rw [if_pos h]
end Go.Proofs.YtancajcelmhnkaaGreatDoor
