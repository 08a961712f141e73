/- ref16.read at any words: no operation,true,not;a mark. (Printed by gen4/rrd.py.) -/
import Derived.Test.YtancajcelmhnkaaGreatDoorRrd
import Derived.Test.YtancajcelmhnkaaGreatDoorHs
set_option maxRecDepth 100000
set_option maxHeartbeats 8000000
namespace Go.Proofs.YtancajcelmhnkaaGreatDoor
open Go.RowKit Go.Sort Go.Shelf
set_option linter.unusedVariables false
set_option linter.unusedSimpArgs false
theorem rread_a (N:Nat) (ih:Rf N) (s:ByteArray) (rest:List ByteArray) (hN:rest.length≤N) (hw2:(s :: rest).length≤1000) (w:World) (a:Option Addr) (m c:Nat) (hset:opV s=0∨opV s=1∨opV s=11) (h:WsV w a m c (s :: rest)):Calls Tryz.prog 83 #[.slice a m c] w (RfP w a (s :: rest)):=by
 obtain ⟨b,off,rfl,rfl,hc0⟩:=h.first
 have HV:=hid h;have IH:=hid ih
 have hcap:=h.cap
 have hbl:b<w.heap.size:=World.block_lt_of_cell? w _ hc0
 have hop:=opV_le s
 have hr1:rest.length≤999:=by simp at hw2;omega
 clear h ih hw2
 obtain ⟨n,hn⟩:∃ n,rest.length=n:=⟨_,rfl⟩
 have HNL:=hid hn
 rw [hn] at HV hcap hN hr1 ⊢
 clear hn
 obtain ⟨W,hW⟩:∃ W,(w.alloc (.cells #[.int .i64 0,.int .i64 0,.int .i64 0,.slice none 0 0] 24)).alloc (.cells #[.int .i64 0,.int .i64 0,.int .i64 0,.slice none 0 0] 24)=W:=⟨_,rfl⟩
 have B0:RowKit.Hid (Blk W w.heap.size 24 #[.int .i64 0,.int .i64 0,.int .i64 0,.slice none 0 0]):=by show Blk _ _ _ _;rw [← hW];exact (Blk.new w _ _).alloc _
 have B5:RowKit.Hid (Blk W (w.heap.size+1) 24 #[.int .i64 0,.int .i64 0,.int .i64 0,.slice none 0 0]):=by show Blk _ _ _ _;rw [← hW];exact Blk.fresh (by simp)
 have BB:RowKit.Hid (Below w.heap.size w W):=by show Below _ _ _;rw [← hW];exact Bw.out
 go_enter Tryz.func83,Tryz.ntmps83
 go_wp2_with (refine wpList_store_row rfl 24 (.tmp 5) (.tmp 18) rfl (w.heap.size+1) #[.int .i64 0,.int .i64 0,.int .i64 0,.slice none 0 0] rfl rfl _ _ B5.out tmInfo rfl (tm_one _ _ _ _ _ _) ?_)
 have C5:=hid (setRow_heap W (w.heap.size+1) _ #[.int .i64 0,.int .i64 0,.int .i64 0,.slice none 0 0] _ _ B5.out)
 have C0:RowKit.Hid (Blk (W.setRow (w.heap.size+1) #[.int .i64 0,.int .i64 0,.int .i64 0,.slice none 0 0]) w.heap.size 24 #[.int .i64 0,.int .i64 0,.int .i64 0,.slice none 0 0]):=hid ((setRow_other _ _ _ _ (by omega)).trans B0.out)
 have CB:=hid (below_setRow BB.out (Nat.le_succ w.heap.size) #[.int .i64 0,.int .i64 0,.int .i64 0,.slice none 0 0])
 go_loopw [6] (fun i wr=>∃ p:Nat,1≤p∧p≤12∧i=.int .i64 p∧Blk wr w.heap.size 24 #[.int .i64 0,.int .i64 0,.int .i64 0,.slice none 0 0]∧Blk wr (w.heap.size+1) 24 #[.int .i64 (if opV s<p then opV s else 0),.int .i64 0,.int .i64 0,.slice none 0 0]∧Below w.heap.size w wr) (fun i _=>12 - (intOf i).toNat)
 case atStart=>exact ⟨1,Nat.le_refl _,by decide,rfl,C0.out,by
  have e:(if opV s<((1:Nat):Int) then opV s else 0)=0:=by split <;> omega
  rw [e];exact C5.out,CB.out⟩
 case round =>
  obtain ⟨p,hp1,hp2,rfl,hb0,hb5,hbw⟩:=hrel
  have D0:=hid hb0;have D5:=hid hb5;have DW:=hid hbw
  have yb:=hbw.size
  have yl:=hb5.lt
  clear hb0 hb5 hbw
  by_cases hlt:p≤11
  ·have HO:=hid fun W=>rops_any p hp1 hlt W
   have HQ:=hid (opV_eq s p hp1 hlt)
   obtain ⟨ow,how⟩:∃ t,opWord p=t:=⟨_,rfl⟩
   rw [how] at HO HQ
   have c0:=hid (bc1 DW.out hc0)
   clear how
   by_cases he:opV s=p
   ·have q0:(ow.toList == s.toList)=true:=by rw [HQ.out];simpa using he
    go_upto_region 7 with fail
    go_region_held3 (fun w'=>w'.cell? ⟨b,off,none⟩=some (.string s)) (first | exact c0.out | exact bc1 E1.out c0.out)
     (first
      | (go_at_call 115;(with_reducible refine (HO.out _).mono ?_);rintro e w1 ⟨rfl,hb⟩;have E1:RowKit.Hid (Below wr.heap.size wr w1):=hid (btr Bw.out hb);have E5:=hid (D5.out.below E1.out);have z0:w1.cell? ⟨w.heap.size+1,0,none⟩=some (.int .i64 (if opV s<p then opV s else 0)):=E5.out.cell 0;have f0:=E5.out.free 0;have yl1:=E5.out.lt;clear hb)
      | fail)
    go_wp2
    go_roundw
    case rel =>
     refine ⟨p+1,by omega,by omega,by go_num,?_,?_,?_⟩
     ·exact Kept.blk (S:=fun k=>k=w.heap.size+1) ((Kept.refl _ _).set rfl) (D0.out.below E1.out) (by show ¬ _=_;omega)
     ·have:=E5.out.put 0 (.int .i64 p)
      rw [if_pos (show opV s<((p+1:Nat):Int) by omega),he]
      simpa using this
     ·exact bst (btr DW.out E1.out) _ _ _ (Nat.le_succ _)
    case measure=>simp [intOf];omega
   ·have q0:(ow.toList == s.toList)=false:=by rw [HQ.out];simpa using he
    go_upto_region 7 with fail
    go_region_held3 (fun w'=>w'.cell? ⟨b,off,none⟩=some (.string s)) (first | exact c0.out | exact bc1 E1.out c0.out)
     (first
      | (go_at_call 115;(with_reducible refine (HO.out _).mono ?_);rintro e w1 ⟨rfl,hb⟩;have E1:RowKit.Hid (Below wr.heap.size wr w1):=hid (btr Bw.out hb);have E5:=hid (D5.out.below E1.out);have z0:w1.cell? ⟨w.heap.size+1,0,none⟩=some (.int .i64 (if opV s<p then opV s else 0)):=E5.out.cell 0;have f0:=E5.out.free 0;have yl1:=E5.out.lt;clear hb)
      | fail)
    go_wp2
    go_roundw
    case rel =>
     refine ⟨p+1,by omega,by omega,by go_num,D0.out.below E1.out,?_,btr DW.out E1.out⟩
     have e:(if opV s<((p+1:Nat):Int) then opV s else 0)=(if opV s<(p:Int) then opV s else 0):=by
      by_cases h1:opV s<(p:Int)
      ·rw [if_pos h1,if_pos (by omega)]
      ·rw [if_neg h1,if_neg (by omega)]
     rw [e];exact E5.out
    case measure=>simp [intOf];omega
  ·obtain rfl:p=12:=by omega
   have e:(if opV s<((12:Nat):Int) then opV s else 0)=opV s:=if_pos (by omega)
   rw [e] at D5
   clear e
   have x5:wr.cell? ⟨w.heap.size+1,0,none⟩=some (.int .i64 (opV s)):=D5.out.cell 0
   have HVW:=hid (HV.out.below DW.out)
   go_upto_region 9 with fail
   go_cut [0] (fun v wx=>∃ (a':Option Addr) (c':Nat),v=.slice a' n c'∧WsV wx a' n c' rest∧(∀ b' o,a'=some ⟨b',o,none⟩→b'=b)∧wx=wr)
   case first =>
    by_cases hc1:c=1
    ·subst hc1
     obtain rfl:n=0:=by omega
     go_wp2
     go_meet
     case rel=>exact ⟨_,_,rfl,HVW.out.tail1,(fun b' o e=>by cases e;rfl),rfl⟩
    ·have hc2:¬ (1:Nat)=c:=by omega
     have hc3:1<c:=by omega
     go_wp2
     go_meet
     case rel =>
      have:=HVW.out.tail2
      rw [HNL.out] at this
      exact ⟨_,_,rfl,this,(fun b' o e=>by cases e;rfl),rfl⟩
   case rest =>
    obtain ⟨a',c',rfl,hv',ha',rfl⟩:=hcut
    have HR:=hid hv';have HA:=hid ha'
    have ADR:RowKit.Hid (∀ b' o',a'=some ⟨b',o',none⟩→∃ o0,some (⟨b,off,none⟩:Addr)=some ⟨b',o0,none⟩):=hid fun b' o' e=>⟨off,by rw [HA.out b' o' e]⟩
    clear hv' ha'
    clear hop
    rcases hset with ho | ho | ho
    all_goals rw [ho] at x5 D5
    ·
     go_wp2_with (refine wpList_store_row rfl 24 (.tmp 2) (.tmp 37) rfl w.heap.size #[.int .i64 0,.int .i64 0,.int .i64 0,.slice none 0 0] rfl rfl _ _ D0.out tmInfo rfl (tm_one _ _ _ _ _ _) ?_)
     have B9:=setRow_heap wc w.heap.size _ #[.int .i64 0,.int .i64 0,.int .i64 0,.slice none 0 0] _ _ D0.out
     refine bodyPost_ret (v:=.tuple #[.agg #[.int .i64 0,.int .i64 0,.int .i64 0,.slice none 0 0],.slice none 0 0,.bool false]) (by simp [results,Tryz.results83,go_sem,Blk.cell B9]) rfl ?_
     exact ⟨.mk 0 0 0 none 0 0 [],none,0,0,false,rfl,(fun h=>by cases h),fun _=>fun t r=>rdi_zero ho,below_setRow DW.out (Nat.le_refl _) _⟩
    ·
     go_wp2_with (first
      | (refine wpList_load_row rfl 24 (.tmp 5) rfl (w.heap.size+1) rfl _ #[.int .i64 1,.int .i64 0,.int .i64 0,.slice none 0 0] _ _ D5.out Tryz.underlying24 rfl tmInfo ?_)
      | (refine wpList_store_row rfl 24 (.tmp 2) (.tmp 40) rfl w.heap.size #[.int .i64 1,.int .i64 0,.int .i64 0,.slice none 0 0] rfl rfl _ _ D0.out tmInfo rfl (tm_one _ _ _ _ _ _) ?_))
     have B9:=setRow_heap wc w.heap.size _ #[.int .i64 1,.int .i64 0,.int .i64 0,.slice none 0 0] _ _ D0.out
     refine bodyPost_ret (v:=.tuple #[.agg #[.int .i64 1,.int .i64 0,.int .i64 0,.slice none 0 0],.slice a' n c',.bool true]) (by simp [results,Tryz.results83,go_sem,Blk.cell B9]) rfl ?_
     exact ⟨.mk 1 0 0 none 0 0 [],a',n,c',true,rfl,fun _=>⟨rest,leafOk,leafFr,HR.out.setRow (fun b' o e=>by have:=HA.out b' o e;omega),(rdi_one ho).2 ⟨rfl,rfl⟩,List.suffix_cons _ _,ADR.out⟩,(fun h=>by cases h),below_setRow DW.out (Nat.le_refl _) _⟩
    ·
     have HIR:=hid (IH.out rest (by rw [HNL.out];exact hN) (by rw [HNL.out];omega) wc a' n c' HR.out)
     go_wp2_with (first
      | (go_at_call 83;(with_reducible refine HIR.out.mono ?_);rintro e w1 ⟨⟨op',num',more',a1,n1,c1,kids'⟩,a2,n2,c2,ok,rfl,hyes,hno,hb⟩;have HY:=hid hyes;have HNN:=hid hno;have E1:RowKit.Hid (Below wc.heap.size wc w1):=hb;have y1:=E1.out.size;have E5:=hid (D5.out.below hb);have E0:=hid (D0.out.below hb);have z3:w1.cell? ⟨w.heap.size+1,3,none⟩=some (.slice none 0 0):=E5.out.cell 3;have f3:=E5.out.free 3;have zl:=E5.out.lt;have E1r:RowKit.Hid (Blk ((w1.alloc (.cells #[.int .i64 op',.int .i64 num',.int .i64 more',.slice a1 n1 c1] 24)).alloc (.cells #[.int .i64 op',.int .i64 num',.int .i64 more',.slice a1 n1 c1] 24)) (w.heap.size+1) 24 #[.int .i64 11,.int .i64 0,.int .i64 0,.slice none 0 0]):=hid ((E5.out.alloc _).alloc _);have z4:((w1.alloc (.cells #[.int .i64 op',.int .i64 num',.int .i64 more',.slice a1 n1 c1] 24)).alloc (.cells #[.int .i64 op',.int .i64 num',.int .i64 more',.slice a1 n1 c1] 24)).cell? ⟨w.heap.size+1,3,none⟩=some (.slice none 0 0):=E1r.out.cell 3;have f4:((w1.alloc (.cells #[.int .i64 op',.int .i64 num',.int .i64 more',.slice a1 n1 c1] 24)).alloc (.cells #[.int .i64 op',.int .i64 num',.int .i64 more',.slice a1 n1 c1] 24)).frozen? ⟨w.heap.size+1,3,none⟩=false:=E1r.out.free 3;have l4:w.heap.size+1<((w1.alloc (.cells #[.int .i64 op',.int .i64 num',.int .i64 more',.slice a1 n1 c1] 24)).alloc (.cells #[.int .i64 op',.int .i64 num',.int .i64 more',.slice a1 n1 c1] 24)).heap.size:=E1r.out.lt;have P5:RowKit.Hid (Blk (((w1.alloc (.cells #[.int .i64 op',.int .i64 num',.int .i64 more',.slice a1 n1 c1] 24)).alloc (.cells #[.int .i64 op',.int .i64 num',.int .i64 more',.slice a1 n1 c1] 24)).setCell ⟨w.heap.size+1,3,none⟩ (.slice (some ⟨w1.heap.size+1,0,none⟩) 1 1)) (w.heap.size+1) 24 #[.int .i64 11,.int .i64 0,.int .i64 0,.slice (some ⟨w1.heap.size+1,0,none⟩) 1 1]):=hid (E1r.out.put1 rfl);have P0:RowKit.Hid (Blk (((w1.alloc (.cells #[.int .i64 op',.int .i64 num',.int .i64 more',.slice a1 n1 c1] 24)).alloc (.cells #[.int .i64 op',.int .i64 num',.int .i64 more',.slice a1 n1 c1] 24)).setCell ⟨w.heap.size+1,3,none⟩ (.slice (some ⟨w1.heap.size+1,0,none⟩) 1 1)) w.heap.size 24 #[.int .i64 0,.int .i64 0,.int .i64 0,.slice none 0 0]):=hid (Kept.blk (S:=fun k=>k=w.heap.size+1) ((Kept.refl _ _).set rfl) ((E0.out.alloc _).alloc _) (by show ¬ _=_;omega));have PW:RowKit.Hid (Below w.heap.size w (((w1.alloc (.cells #[.int .i64 op',.int .i64 num',.int .i64 more',.slice a1 n1 c1] 24)).alloc (.cells #[.int .i64 op',.int .i64 num',.int .i64 more',.slice a1 n1 c1] 24)).setCell ⟨w.heap.size+1,3,none⟩ (.slice (some ⟨w1.heap.size+1,0,none⟩) 1 1))):=hid (bst (bal (bal (btr DW.out hb) _) _) _ _ _ (Nat.le_succ _));dsimp only [encTm];clear hyes hno hb)
      | (refine st_new rfl 24 (.tmp 8) (.tmp 47) rfl #[.int .i64 op',.int .i64 num',.int .i64 more',.slice a1 n1 c1] _ _ rfl rfl tmInfo rfl (tm_one _ _ _ _ _ _) ?_)
      | (refine wpList_load_row rfl 24 (.tmp 8) rfl w1.heap.size rfl _ #[.int .i64 op',.int .i64 num',.int .i64 more',.slice a1 n1 c1] _ _ (Blk.new w1 _ _) Tryz.underlying24 rfl tmInfo ?_)
      | (refine bs_one elTm (by decide) rfl (.tmp 50) rfl #[.int .i64 op',.int .i64 num',.int .i64 more',.slice a1 n1 c1] rfl rfl ?_)
      | (refine wpList_load_row rfl 24 (.tmp 5) rfl (w.heap.size+1) rfl _ #[.int .i64 11,.int .i64 0,.int .i64 0,.slice (some ⟨w1.heap.size+1,0,none⟩) 1 1] _ _ P5.out Tryz.underlying24 rfl tmInfo ?_)
      | (refine wpList_store_row rfl 24 (.tmp 2) (.tmp 53) rfl w.heap.size #[.int .i64 11,.int .i64 0,.int .i64 0,.slice (some ⟨w1.heap.size+1,0,none⟩) 1 1] rfl rfl _ _ P0.out tmInfo rfl (tm_one _ _ _ _ _ _) ?_))
     have B9:=setRow_heap (((w1.alloc (.cells #[.int .i64 op',.int .i64 num',.int .i64 more',.slice a1 n1 c1] 24)).alloc (.cells #[.int .i64 op',.int .i64 num',.int .i64 more',.slice a1 n1 c1] 24)).setCell ⟨w.heap.size+1,3,none⟩ (.slice (some ⟨w1.heap.size+1,0,none⟩) 1 1)) w.heap.size _ #[.int .i64 11,.int .i64 0,.int .i64 0,.slice (some ⟨w1.heap.size+1,0,none⟩) 1 1] _ _ P0.out
     refine bodyPost_ret (v:=.tuple #[.agg #[.int .i64 11,.int .i64 0,.int .i64 0,.slice (some ⟨w1.heap.size+1,0,none⟩) 1 1],.slice a2 n2 c2,.bool ok]) (by simp [results,Tryz.results83,go_sem,Blk.cell B9]) rfl ?_
     have hv:∀ g,wc.heap.size≤g→g<((w1.alloc (.cells #[.int .i64 op',.int .i64 num',.int .i64 more',.slice a1 n1 c1] 24)).alloc (.cells #[.int .i64 op',.int .i64 num',.int .i64 more',.slice a1 n1 c1] 24)).heap.size→((((w1.alloc (.cells #[.int .i64 op',.int .i64 num',.int .i64 more',.slice a1 n1 c1] 24)).alloc (.cells #[.int .i64 op',.int .i64 num',.int .i64 more',.slice a1 n1 c1] 24)).setCell ⟨w.heap.size+1,3,none⟩ (.slice (some ⟨w1.heap.size+1,0,none⟩) 1 1)).setRow w.heap.size #[.int .i64 11,.int .i64 0,.int .i64 0,.slice (some ⟨w1.heap.size+1,0,none⟩) 1 1]).heap[g]? = ((w1.alloc (.cells #[.int .i64 op',.int .i64 num',.int .i64 more',.slice a1 n1 c1] 24)).alloc (.cells #[.int .i64 op',.int .i64 num',.int .i64 more',.slice a1 n1 c1] 24)).heap[g]?:=fun g h1 h2=>(setRow_other _ _ _ _ (by omega)).trans (Kept.block (S:=fun k=>k=w.heap.size+1) ((Kept.refl _ _).set rfl) g h2 (by show ¬ _=_;omega))
     have BA:Below w1.heap.size w1 ((w1.alloc (.cells #[.int .i64 op',.int .i64 num',.int .i64 more',.slice a1 n1 c1] 24)).alloc (.cells #[.int .i64 op',.int .i64 num',.int .i64 more',.slice a1 n1 c1] 24)):=Bw.out
     have KK:Kept (fun k=>k=w.heap.size∨k=w.heap.size+1) w1 ((((w1.alloc (.cells #[.int .i64 op',.int .i64 num',.int .i64 more',.slice a1 n1 c1] 24)).alloc (.cells #[.int .i64 op',.int .i64 num',.int .i64 more',.slice a1 n1 c1] 24)).setCell ⟨w.heap.size+1,3,none⟩ (.slice (some ⟨w1.heap.size+1,0,none⟩) 1 1)).setRow w.heap.size #[.int .i64 11,.int .i64 0,.int .i64 0,.slice (some ⟨w1.heap.size+1,0,none⟩) 1 1]):=((Kept.below BA).set (.inr rfl)).trans (kept_row _ _ _) (fun _ _ h=>.inl h)
     refine ⟨.mk 11 0 0 (some ⟨w1.heap.size+1,0,none⟩) 1 1 [(.mk op' num' more' a1 n1 c1 kids')],a2,n2,c2,ok,rfl,fun e=>?_,fun e t r k=>?_,below_setRow PW.out (Nat.le_refl _) _⟩
     ·obtain ⟨ws',h1,h2,h3,h4,h5,h6⟩:=HY.out e
      refine ⟨ws',.mk _ _ _ _ _ _ _ ?_ rfl (Nat.le_refl _) (by decide) (fun h=>by cases h) (fun k hk=>by rw [List.mem_singleton.1 hk];exact (h1.beh BA).far hv h2),.mk _ _ _ _ _ _ _ (fun g off e=>by cases e;omega) (fun k hk=>by rw [List.mem_singleton.1 hk];exact h2.le (by omega)),h3.kept KK (fun b3 o3 e3=>?_),(rdi_not ho).2 ⟨_,h4,by rw [TmM.pl_mk];rfl⟩,h5.trans (List.suffix_cons _ _),fun b3 o3 e3=>?_⟩
      ·refine vw_setRow (g:=w.heap.size) ?_ fun g off e=>by cases e;omega
       refine Kept.vw (S:=fun k=>k=w.heap.size+1) ((Kept.refl _ ((w1.alloc (.cells #[.int .i64 op',.int .i64 num',.int .i64 more',.slice a1 n1 c1] 24)).alloc (.cells #[.int .i64 op',.int .i64 num',.int .i64 more',.slice a1 n1 c1] 24))).set rfl) ?_ (fun b3 o3 e3=>by cases e3;show ¬ _=_;omega)
       refine fun i v hi=>⟨_,0,rfl,?_⟩
       rw [Nat.zero_add,show w1.heap.size+1=(w1.alloc (.cells #[.int .i64 op',.int .i64 num',.int .i64 more',.slice a1 n1 c1] 24)).heap.size by simp,(Blk.new (w1.alloc (.cells #[.int .i64 op',.int .i64 num',.int .i64 more',.slice a1 n1 c1] 24)) _ _).cell i]
       simpa [cellsOf,encTm] using hi
      ·obtain ⟨o4,e4⟩:=h6 _ _ e3
       have:=HA.out _ _ e4
       show ¬ (_∨_)
       omega
      ·obtain ⟨o4,e4⟩:=h6 _ _ e3
       exact ADR.out _ _ e4
     ·obtain ⟨k',k1,-⟩:=(rdi_not ho).1 k
      exact HNN.out e k' r k1
theorem rread_m (N:Nat) (ih:Rf N) (s:ByteArray) (rest:List ByteArray) (hN:rest.length≤N) (hw2:(s :: rest).length≤1000) (w:World) (a:Option Addr) (m c:Nat) (hset:opV s=4) (h:WsV w a m c (s :: rest)):Calls Tryz.prog 83 #[.slice a m c] w (RfP w a (s :: rest)):=by
  obtain ⟨b,off,rfl,rfl,hc0⟩:=h.first
  have HV:=hid h;have IH:=hid ih
  have hcap:=h.cap
  have hbl:b<w.heap.size:=World.block_lt_of_cell? w _ hc0
  have hop:=opV_le s
  have hr1:rest.length≤999:=by simp at hw2;omega
  clear h ih hw2
  obtain ⟨n,hn⟩:∃ n,rest.length=n:=⟨_,rfl⟩
  have HNL:=hid hn
  rw [hn] at HV hcap hN hr1 ⊢
  clear hn
  obtain ⟨W,hW⟩:∃ W,(w.alloc (.cells #[.int .i64 0,.int .i64 0,.int .i64 0,.slice none 0 0] 24)).alloc (.cells #[.int .i64 0,.int .i64 0,.int .i64 0,.slice none 0 0] 24)=W:=⟨_,rfl⟩
  have B0:RowKit.Hid (Blk W w.heap.size 24 #[.int .i64 0,.int .i64 0,.int .i64 0,.slice none 0 0]):=by show Blk _ _ _ _;rw [← hW];exact (Blk.new w _ _).alloc _
  have B5:RowKit.Hid (Blk W (w.heap.size+1) 24 #[.int .i64 0,.int .i64 0,.int .i64 0,.slice none 0 0]):=by show Blk _ _ _ _;rw [← hW];exact Blk.fresh (by simp)
  have BB:RowKit.Hid (Below w.heap.size w W):=by show Below _ _ _;rw [← hW];exact Bw.out
  go_enter Tryz.func83,Tryz.ntmps83
  go_wp2_with (refine wpList_store_row rfl 24 (.tmp 5) (.tmp 18) rfl (w.heap.size+1) #[.int .i64 0,.int .i64 0,.int .i64 0,.slice none 0 0] rfl rfl _ _ B5.out tmInfo rfl (tm_one _ _ _ _ _ _) ?_)
  have C5:=hid (setRow_heap W (w.heap.size+1) _ #[.int .i64 0,.int .i64 0,.int .i64 0,.slice none 0 0] _ _ B5.out)
  have C0:RowKit.Hid (Blk (W.setRow (w.heap.size+1) #[.int .i64 0,.int .i64 0,.int .i64 0,.slice none 0 0]) w.heap.size 24 #[.int .i64 0,.int .i64 0,.int .i64 0,.slice none 0 0]):=hid ((setRow_other _ _ _ _ (by omega)).trans B0.out)
  have CB:=hid (below_setRow BB.out (Nat.le_succ w.heap.size) #[.int .i64 0,.int .i64 0,.int .i64 0,.slice none 0 0])
  go_loopw [6] (fun i wr=>∃ p:Nat,1≤p∧p≤12∧i=.int .i64 p∧Blk wr w.heap.size 24 #[.int .i64 0,.int .i64 0,.int .i64 0,.slice none 0 0]∧Blk wr (w.heap.size+1) 24 #[.int .i64 (if opV s<p then opV s else 0),.int .i64 0,.int .i64 0,.slice none 0 0]∧Below w.heap.size w wr) (fun i _=>12 - (intOf i).toNat)
  case atStart=>exact ⟨1,Nat.le_refl _,by decide,rfl,C0.out,by
    have e:(if opV s<((1:Nat):Int) then opV s else 0)=0:=by split <;> omega
    rw [e];exact C5.out,CB.out⟩
  case round =>
    obtain ⟨p,hp1,hp2,rfl,hb0,hb5,hbw⟩:=hrel
    have D0:=hid hb0;have D5:=hid hb5;have DW:=hid hbw
    have yb:=hbw.size
    have yl:=hb5.lt
    clear hb0 hb5 hbw
    by_cases hlt:p≤11
    · have HO:=hid fun W=>rops_any p hp1 hlt W
      have HQ:=hid (opV_eq s p hp1 hlt)
      obtain ⟨ow,how⟩:∃ t,opWord p=t:=⟨_,rfl⟩
      rw [how] at HO HQ
      have c0:=hid (bc1 DW.out hc0)
      clear how
      by_cases he:opV s=p
      · have q0:(ow.toList == s.toList)=true:=by rw [HQ.out];simpa using he
        go_upto_region 7 with fail
        go_region_held3 (fun w'=>w'.cell? ⟨b,off,none⟩=some (.string s)) (first | exact c0.out | exact bc1 E1.out c0.out)
          (first
            | (go_at_call 115;(with_reducible refine (HO.out _).mono ?_);rintro e w1 ⟨rfl,hb⟩;have E1:RowKit.Hid (Below wr.heap.size wr w1):=hid (btr Bw.out hb);have E5:=hid (D5.out.below E1.out);have z0:w1.cell? ⟨w.heap.size+1,0,none⟩=some (.int .i64 (if opV s<p then opV s else 0)):=E5.out.cell 0;have f0:=E5.out.free 0;have yl1:=E5.out.lt;clear hb)
            | fail)
        go_wp2
        go_roundw
        case rel =>
          refine ⟨p+1,by omega,by omega,by go_num,?_,?_,?_⟩
          · exact Kept.blk (S:=fun k=>k=w.heap.size+1) ((Kept.refl _ _).set rfl) (D0.out.below E1.out) (by show ¬ _=_;omega)
          · have:=E5.out.put 0 (.int .i64 p)
            rw [if_pos (show opV s<((p+1:Nat):Int) by omega),he]
            simpa using this
          · exact bst (btr DW.out E1.out) _ _ _ (Nat.le_succ _)
        case measure=>simp [intOf];omega
      · have q0:(ow.toList == s.toList)=false:=by rw [HQ.out];simpa using he
        go_upto_region 7 with fail
        go_region_held3 (fun w'=>w'.cell? ⟨b,off,none⟩=some (.string s)) (first | exact c0.out | exact bc1 E1.out c0.out)
          (first
            | (go_at_call 115;(with_reducible refine (HO.out _).mono ?_);rintro e w1 ⟨rfl,hb⟩;have E1:RowKit.Hid (Below wr.heap.size wr w1):=hid (btr Bw.out hb);have E5:=hid (D5.out.below E1.out);have z0:w1.cell? ⟨w.heap.size+1,0,none⟩=some (.int .i64 (if opV s<p then opV s else 0)):=E5.out.cell 0;have f0:=E5.out.free 0;have yl1:=E5.out.lt;clear hb)
            | fail)
        go_wp2
        go_roundw
        case rel =>
          refine ⟨p+1,by omega,by omega,by go_num,D0.out.below E1.out,?_,btr DW.out E1.out⟩
          have e:(if opV s<((p+1:Nat):Int) then opV s else 0)=(if opV s<(p:Int) then opV s else 0):=by
            by_cases h1:opV s<(p:Int)
            · rw [if_pos h1,if_pos (by omega)]
            · rw [if_neg h1,if_neg (by omega)]
          rw [e];exact E5.out
        case measure=>simp [intOf];omega
    · obtain rfl:p=12:=by omega
      have e:(if opV s<((12:Nat):Int) then opV s else 0)=opV s:=if_pos (by omega)
      rw [e] at D5
      clear e
      have x5:wr.cell? ⟨w.heap.size+1,0,none⟩=some (.int .i64 (opV s)):=D5.out.cell 0
      have HVW:=hid (HV.out.below DW.out)
      go_upto_region 9 with fail
      go_cut [0] (fun v wx=>∃ (a':Option Addr) (c':Nat),v=.slice a' n c'∧WsV wx a' n c' rest∧(∀ b' o,a'=some ⟨b',o,none⟩→b'=b)∧wx=wr)
      case first =>
        by_cases hc1:c=1
        · subst hc1
          obtain rfl:n=0:=by omega
          go_wp2
          go_meet
          case rel=>exact ⟨_,_,rfl,HVW.out.tail1,(fun b' o e=>by cases e;rfl),rfl⟩
        · have hc2:¬ (1:Nat)=c:=by omega
          have hc3:1<c:=by omega
          go_wp2
          go_meet
          case rel =>
            have:=HVW.out.tail2
            rw [HNL.out] at this
            exact ⟨_,_,rfl,this,(fun b' o e=>by cases e;rfl),rfl⟩
      case rest =>
        obtain ⟨a',c',rfl,hv',ha',rfl⟩:=hcut
        have HR:=hid hv';have HA:=hid ha'
        have ADR:RowKit.Hid (∀ b' o',a'=some ⟨b',o',none⟩→∃ o0,some (⟨b,off,none⟩:Addr)=some ⟨b',o0,none⟩):=hid fun b' o' e=>⟨off,by rw [HA.out b' o' e]⟩
        clear hv' ha'
        clear hop
        have ho:=hset
        rw [ho] at x5 D5
        ·
          cases rest with
          | nil =>
            obtain rfl:n=0:=by have:=HNL.out;simpa using this.symm
            go_wp2_with (refine wpList_store_row rfl 24 (.tmp 2) (.tmp 108) rfl w.heap.size #[.int .i64 0,.int .i64 0,.int .i64 0,.slice none 0 0] rfl rfl _ _ D0.out tmInfo rfl (tm_one _ _ _ _ _ _) ?_)
            have B9:=setRow_heap wc w.heap.size _ #[.int .i64 0,.int .i64 0,.int .i64 0,.slice none 0 0] _ _ D0.out
            refine bodyPost_ret (v:=.tuple #[.agg #[.int .i64 0,.int .i64 0,.int .i64 0,.slice none 0 0],.slice none 0 0,.bool false]) (by simp [results,Tryz.results83,go_sem,Blk.cell B9]) rfl ?_
            exact ⟨.mk 0 0 0 none 0 0 [],none,0,0,false,rfl,(fun h=>by cases h),(fun _ t r k=>by obtain ⟨x,e,_⟩:=(rdi_mark ho).1 k;cases e),below_setRow DW.out (Nat.le_refl _) _⟩
          | cons x tl =>
            obtain ⟨b',o',rfl,hn',hx⟩:=HR.out.first
            subst hn'
            have hcap':=HR.out.cap
            obtain ⟨ok,hok⟩:∃ ok,decide (letV x ≠ 0)=ok:=⟨_,rfl⟩
            have HLT:RowKit.Hid (∀ W,Calls Tryz.prog 124 #[.string x] W fun e w'=>∃ m:Int,e=.returned (.tuple #[.int .i64 m,.bool ok])∧(ok=true→letV x ≠ 0∧m=letV x)∧w'=W):=hid fun W=>(rletter_any x W).mono fun e w' ⟨m,he,hm,hw⟩=>⟨m,by rw [he,hok],fun h=>by rw [← hok] at h;exact ⟨of_decide_eq_true h,hm (of_decide_eq_true h)⟩,hw⟩
            have HLN:RowKit.Hid (ok=false→letV x=0):=hid fun h=>by rw [← hok] at h;exact Decidable.not_not.1 (of_decide_eq_false h)
            clear hok
            by_cases hc1:c'=1
            · subst hc1
              have hz:tl.length=0:=by omega
              obtain rfl:tl=[]:=List.eq_nil_of_length_eq_zero hz
              go_wp2_with (first
                | (go_at_call 124;(with_reducible refine (HLT.out _).mono ?_);rintro e w1 ⟨m,rfl,hm,h1⟩;have HM:=hid hm;have h2:=h1.symm;subst h2;have z1:wc.cell? ⟨w.heap.size+1,1,none⟩=some (.int .i64 0):=D5.out.cell 1;have f1:=D5.out.free 1;have P5:RowKit.Hid (Blk (wc.setCell ⟨w.heap.size+1,1,none⟩ (.int .i64 m)) (w.heap.size+1) 24 #[.int .i64 4,.int .i64 m,.int .i64 0,.slice none 0 0]):=hid (D5.out.put1 rfl);have P0:RowKit.Hid (Blk (wc.setCell ⟨w.heap.size+1,1,none⟩ (.int .i64 m)) w.heap.size 24 #[.int .i64 0,.int .i64 0,.int .i64 0,.slice none 0 0]):=hid (Kept.blk (S:=fun k=>k=w.heap.size+1) ((Kept.refl _ _).set rfl) D0.out (by show ¬ _=_;omega));have PW:RowKit.Hid (Below w.heap.size w (wc.setCell ⟨w.heap.size+1,1,none⟩ (.int .i64 m))):=hid (bst DW.out _ _ _ (Nat.le_succ _));clear hm)
                | fail)
              have zr0:(wc.setCell ⟨w.heap.size+1,1,none⟩ (.int .i64 m)).cell? ⟨w.heap.size,0,none⟩=some (.int .i64 0):=P0.out.cell 0
              have zr1:(wc.setCell ⟨w.heap.size+1,1,none⟩ (.int .i64 m)).cell? ⟨w.heap.size,1,none⟩=some (.int .i64 0):=P0.out.cell 1
              have zr2:(wc.setCell ⟨w.heap.size+1,1,none⟩ (.int .i64 m)).cell? ⟨w.heap.size,2,none⟩=some (.int .i64 0):=P0.out.cell 2
              have zr3:(wc.setCell ⟨w.heap.size+1,1,none⟩ (.int .i64 m)).cell? ⟨w.heap.size,3,none⟩=some (.slice none 0 0):=P0.out.cell 3
              have fr0:=P0.out.free 0
              have fr1:=P0.out.free 1
              have fr2:=P0.out.free 2
              have fr3:=P0.out.free 3
              have lr:=P0.out.lt
              go_upto_region 37 with fail
              go_region_held3 (fun w'=>w'.cell? ⟨w.heap.size+1,0,none⟩=some (.int .i64 4)∧w'.cell? ⟨w.heap.size+1,1,none⟩=some (.int .i64 m)∧w'.cell? ⟨w.heap.size+1,2,none⟩=some (.int .i64 0)∧w'.cell? ⟨w.heap.size+1,3,none⟩=some (.slice none 0 0)) (with_reducible first | exact P5.out.c4 | exact P5.out.drew.c4 | exact c4f (by omega) P5.out.c4 | exact c4fd (by omega) P5.out.c4) (first | fail)
              all_goals
                go_wp2
                first
                | (have B9:Blk (((((wc.setCell ⟨w.heap.size+1,1,none⟩ (.int .i64 m)).setCell ⟨w.heap.size,0,none⟩ (.int .i64 4)).setCell ⟨w.heap.size,1,none⟩ (.int .i64 m)).setCell ⟨w.heap.size,2,none⟩ (.int .i64 0)).setCell ⟨w.heap.size,3,none⟩ (.slice none 0 0)) w.heap.size 24 #[.int .i64 4,.int .i64 m,.int .i64 0,.slice none 0 0]:=Blk.put4f (v0:=.int .i64 4) (v1:=.int .i64 m) (v2:=.int .i64 0) (v3:=.slice none 0 0) P0.out rfl
                   refine bodyPost_ret (v:=.tuple #[.agg #[.int .i64 4,.int .i64 m,.int .i64 0,.slice none 0 0],.slice (some ⟨b',o',none⟩) 0 0,.bool ok]) (by simp [results,Tryz.results83,go_sem,Blk.cell B9]) rfl ?_
                   have KR:Kept (fun k=>k=w.heap.size) (wc.setCell ⟨w.heap.size+1,1,none⟩ (.int .i64 m)) (((((wc.setCell ⟨w.heap.size+1,1,none⟩ (.int .i64 m)).setCell ⟨w.heap.size,0,none⟩ (.int .i64 4)).setCell ⟨w.heap.size,1,none⟩ (.int .i64 m)).setCell ⟨w.heap.size,2,none⟩ (.int .i64 0)).setCell ⟨w.heap.size,3,none⟩ (.slice none 0 0)):=((((Kept.refl (fun k=>k=w.heap.size) (wc.setCell ⟨w.heap.size+1,1,none⟩ (.int .i64 m))).set rfl).set rfl).set rfl).set rfl
                   have BR:Below w.heap.size w (((((wc.setCell ⟨w.heap.size+1,1,none⟩ (.int .i64 m)).setCell ⟨w.heap.size,0,none⟩ (.int .i64 4)).setCell ⟨w.heap.size,1,none⟩ (.int .i64 m)).setCell ⟨w.heap.size,2,none⟩ (.int .i64 0)).setCell ⟨w.heap.size,3,none⟩ (.slice none 0 0)):=bst (bst (bst (bst PW.out _ _ _ (Nat.le_refl _)) _ _ _ (Nat.le_refl _)) _ _ _ (Nat.le_refl _)) _ _ _ (Nat.le_refl _)
                   have KK:Kept (fun k=>k=w.heap.size∨k=w.heap.size+1) wc _:=((Kept.refl _ _).set (.inr rfl)).trans KR (fun _ _ h=>.inl h)
                   exact ⟨.mk 4 m 0 none 0 0 [],_,_,_,ok,rfl,(fun e=>⟨_,leafOk,leafFr,(HR.out.tail1).kept KK (fun b o e=>by cases e;have:=HA.out _ _ rfl;omega),(rdi_mark ho).2 ⟨x,rfl,(HM.out e).1,by rw [zeroM,(HM.out e).2]⟩,(List.suffix_cons _ _).trans (List.suffix_cons _ _),(fun b3 o3 e=>by cases e;exact ADR.out _ _ rfl)⟩),(fun e t r k=>by obtain ⟨x',e',e2,_⟩:=(rdi_mark ho).1 k;cases e';exact e2 (HLN.out e)),BR⟩)
                | (have B9:Blk (((((wc.setCell ⟨w.heap.size+1,1,none⟩ (.int .i64 m)).setCell ⟨w.heap.size,0,none⟩ (.int .i64 4)).setCell ⟨w.heap.size,1,none⟩ (.int .i64 m)).setCell ⟨w.heap.size,2,none⟩ (.int .i64 0)).setCell ⟨w.heap.size,3,none⟩ (.slice none 0 0)).drew w.heap.size 24 #[.int .i64 4,.int .i64 m,.int .i64 0,.slice none 0 0]:=Blk.put4f (v0:=.int .i64 4) (v1:=.int .i64 m) (v2:=.int .i64 0) (v3:=.slice none 0 0) P0.out rfl
                   refine bodyPost_ret (v:=.tuple #[.agg #[.int .i64 4,.int .i64 m,.int .i64 0,.slice none 0 0],.slice (some ⟨b',o',none⟩) 0 0,.bool ok]) (by simp [results,Tryz.results83,go_sem,Blk.cell B9]) rfl ?_
                   have KR:Kept (fun k=>k=w.heap.size) (wc.setCell ⟨w.heap.size+1,1,none⟩ (.int .i64 m)) (((((wc.setCell ⟨w.heap.size+1,1,none⟩ (.int .i64 m)).setCell ⟨w.heap.size,0,none⟩ (.int .i64 4)).setCell ⟨w.heap.size,1,none⟩ (.int .i64 m)).setCell ⟨w.heap.size,2,none⟩ (.int .i64 0)).setCell ⟨w.heap.size,3,none⟩ (.slice none 0 0)).drew:=Kept.behind (((((Kept.refl (fun k=>k=w.heap.size) (wc.setCell ⟨w.heap.size+1,1,none⟩ (.int .i64 m))).set rfl).set rfl).set rfl).set rfl) (bdr (Below.refl _ _))
                   have BR:Below w.heap.size w (((((wc.setCell ⟨w.heap.size+1,1,none⟩ (.int .i64 m)).setCell ⟨w.heap.size,0,none⟩ (.int .i64 4)).setCell ⟨w.heap.size,1,none⟩ (.int .i64 m)).setCell ⟨w.heap.size,2,none⟩ (.int .i64 0)).setCell ⟨w.heap.size,3,none⟩ (.slice none 0 0)).drew:=bdr (bst (bst (bst (bst PW.out _ _ _ (Nat.le_refl _)) _ _ _ (Nat.le_refl _)) _ _ _ (Nat.le_refl _)) _ _ _ (Nat.le_refl _))
                   have KK:Kept (fun k=>k=w.heap.size∨k=w.heap.size+1) wc _:=((Kept.refl _ _).set (.inr rfl)).trans KR (fun _ _ h=>.inl h)
                   exact ⟨.mk 4 m 0 none 0 0 [],_,_,_,ok,rfl,(fun e=>⟨_,leafOk,leafFr,(HR.out.tail1).kept KK (fun b o e=>by cases e;have:=HA.out _ _ rfl;omega),(rdi_mark ho).2 ⟨x,rfl,(HM.out e).1,by rw [zeroM,(HM.out e).2]⟩,(List.suffix_cons _ _).trans (List.suffix_cons _ _),(fun b3 o3 e=>by cases e;exact ADR.out _ _ rfl)⟩),(fun e t r k=>by obtain ⟨x',e',e2,_⟩:=(rdi_mark ho).1 k;cases e';exact e2 (HLN.out e)),BR⟩)
            · have hc2:¬ (1:Nat)=c':=by omega
              have hc3:1<c':=by omega
              go_wp2_with (first
                | (go_at_call 124;(with_reducible refine (HLT.out _).mono ?_);rintro e w1 ⟨m,rfl,hm,h1⟩;have HM:=hid hm;have h2:=h1.symm;subst h2;have z1:wc.cell? ⟨w.heap.size+1,1,none⟩=some (.int .i64 0):=D5.out.cell 1;have f1:=D5.out.free 1;have P5:RowKit.Hid (Blk (wc.setCell ⟨w.heap.size+1,1,none⟩ (.int .i64 m)) (w.heap.size+1) 24 #[.int .i64 4,.int .i64 m,.int .i64 0,.slice none 0 0]):=hid (D5.out.put1 rfl);have P0:RowKit.Hid (Blk (wc.setCell ⟨w.heap.size+1,1,none⟩ (.int .i64 m)) w.heap.size 24 #[.int .i64 0,.int .i64 0,.int .i64 0,.slice none 0 0]):=hid (Kept.blk (S:=fun k=>k=w.heap.size+1) ((Kept.refl _ _).set rfl) D0.out (by show ¬ _=_;omega));have PW:RowKit.Hid (Below w.heap.size w (wc.setCell ⟨w.heap.size+1,1,none⟩ (.int .i64 m))):=hid (bst DW.out _ _ _ (Nat.le_succ _));clear hm)
                | fail)
              have j1:(tl.length:Int)+1≤(c':Int):=by omega
              have j2:(1:Int)≤(c':Int):=by omega
              have j3:(1:Int)≤(tl.length:Int)+1:=by omega
              have zr0:(wc.setCell ⟨w.heap.size+1,1,none⟩ (.int .i64 m)).cell? ⟨w.heap.size,0,none⟩=some (.int .i64 0):=P0.out.cell 0
              have zr1:(wc.setCell ⟨w.heap.size+1,1,none⟩ (.int .i64 m)).cell? ⟨w.heap.size,1,none⟩=some (.int .i64 0):=P0.out.cell 1
              have zr2:(wc.setCell ⟨w.heap.size+1,1,none⟩ (.int .i64 m)).cell? ⟨w.heap.size,2,none⟩=some (.int .i64 0):=P0.out.cell 2
              have zr3:(wc.setCell ⟨w.heap.size+1,1,none⟩ (.int .i64 m)).cell? ⟨w.heap.size,3,none⟩=some (.slice none 0 0):=P0.out.cell 3
              have fr0:=P0.out.free 0
              have fr1:=P0.out.free 1
              have fr2:=P0.out.free 2
              have fr3:=P0.out.free 3
              have lr:=P0.out.lt
              go_upto_region 37 with fail
              go_region_held3 (fun w'=>w'.cell? ⟨w.heap.size+1,0,none⟩=some (.int .i64 4)∧w'.cell? ⟨w.heap.size+1,1,none⟩=some (.int .i64 m)∧w'.cell? ⟨w.heap.size+1,2,none⟩=some (.int .i64 0)∧w'.cell? ⟨w.heap.size+1,3,none⟩=some (.slice none 0 0)) (with_reducible first | exact P5.out.c4 | exact P5.out.drew.c4 | exact c4f (by omega) P5.out.c4 | exact c4fd (by omega) P5.out.c4) (first | fail)
              all_goals
                go_wp2
                first
                | (have B9:Blk (((((wc.setCell ⟨w.heap.size+1,1,none⟩ (.int .i64 m)).setCell ⟨w.heap.size,0,none⟩ (.int .i64 4)).setCell ⟨w.heap.size,1,none⟩ (.int .i64 m)).setCell ⟨w.heap.size,2,none⟩ (.int .i64 0)).setCell ⟨w.heap.size,3,none⟩ (.slice none 0 0)) w.heap.size 24 #[.int .i64 4,.int .i64 m,.int .i64 0,.slice none 0 0]:=Blk.put4f (v0:=.int .i64 4) (v1:=.int .i64 m) (v2:=.int .i64 0) (v3:=.slice none 0 0) P0.out rfl
                   refine bodyPost_ret (v:=.tuple #[.agg #[.int .i64 4,.int .i64 m,.int .i64 0,.slice none 0 0],.slice (some ⟨b',o'+1,none⟩) tl.length (c' - 1),.bool ok]) (by simp [results,Tryz.results83,go_sem,Blk.cell B9]) rfl ?_
                   have KR:Kept (fun k=>k=w.heap.size) (wc.setCell ⟨w.heap.size+1,1,none⟩ (.int .i64 m)) (((((wc.setCell ⟨w.heap.size+1,1,none⟩ (.int .i64 m)).setCell ⟨w.heap.size,0,none⟩ (.int .i64 4)).setCell ⟨w.heap.size,1,none⟩ (.int .i64 m)).setCell ⟨w.heap.size,2,none⟩ (.int .i64 0)).setCell ⟨w.heap.size,3,none⟩ (.slice none 0 0)):=((((Kept.refl (fun k=>k=w.heap.size) (wc.setCell ⟨w.heap.size+1,1,none⟩ (.int .i64 m))).set rfl).set rfl).set rfl).set rfl
                   have BR:Below w.heap.size w (((((wc.setCell ⟨w.heap.size+1,1,none⟩ (.int .i64 m)).setCell ⟨w.heap.size,0,none⟩ (.int .i64 4)).setCell ⟨w.heap.size,1,none⟩ (.int .i64 m)).setCell ⟨w.heap.size,2,none⟩ (.int .i64 0)).setCell ⟨w.heap.size,3,none⟩ (.slice none 0 0)):=bst (bst (bst (bst PW.out _ _ _ (Nat.le_refl _)) _ _ _ (Nat.le_refl _)) _ _ _ (Nat.le_refl _)) _ _ _ (Nat.le_refl _)
                   have KK:Kept (fun k=>k=w.heap.size∨k=w.heap.size+1) wc _:=((Kept.refl _ _).set (.inr rfl)).trans KR (fun _ _ h=>.inl h)
                   exact ⟨.mk 4 m 0 none 0 0 [],_,_,_,ok,rfl,(fun e=>⟨_,leafOk,leafFr,(HR.out.tail2).kept KK (fun b o e=>by cases e;have:=HA.out _ _ rfl;omega),(rdi_mark ho).2 ⟨x,rfl,(HM.out e).1,by rw [zeroM,(HM.out e).2]⟩,(List.suffix_cons _ _).trans (List.suffix_cons _ _),(fun b3 o3 e=>by cases e;exact ADR.out _ _ rfl)⟩),(fun e t r k=>by obtain ⟨x',e',e2,_⟩:=(rdi_mark ho).1 k;cases e';exact e2 (HLN.out e)),BR⟩)
                | (have B9:Blk (((((wc.setCell ⟨w.heap.size+1,1,none⟩ (.int .i64 m)).setCell ⟨w.heap.size,0,none⟩ (.int .i64 4)).setCell ⟨w.heap.size,1,none⟩ (.int .i64 m)).setCell ⟨w.heap.size,2,none⟩ (.int .i64 0)).setCell ⟨w.heap.size,3,none⟩ (.slice none 0 0)).drew w.heap.size 24 #[.int .i64 4,.int .i64 m,.int .i64 0,.slice none 0 0]:=Blk.put4f (v0:=.int .i64 4) (v1:=.int .i64 m) (v2:=.int .i64 0) (v3:=.slice none 0 0) P0.out rfl
                   refine bodyPost_ret (v:=.tuple #[.agg #[.int .i64 4,.int .i64 m,.int .i64 0,.slice none 0 0],.slice (some ⟨b',o'+1,none⟩) tl.length (c' - 1),.bool ok]) (by simp [results,Tryz.results83,go_sem,Blk.cell B9]) rfl ?_
                   have KR:Kept (fun k=>k=w.heap.size) (wc.setCell ⟨w.heap.size+1,1,none⟩ (.int .i64 m)) (((((wc.setCell ⟨w.heap.size+1,1,none⟩ (.int .i64 m)).setCell ⟨w.heap.size,0,none⟩ (.int .i64 4)).setCell ⟨w.heap.size,1,none⟩ (.int .i64 m)).setCell ⟨w.heap.size,2,none⟩ (.int .i64 0)).setCell ⟨w.heap.size,3,none⟩ (.slice none 0 0)).drew:=Kept.behind (((((Kept.refl (fun k=>k=w.heap.size) (wc.setCell ⟨w.heap.size+1,1,none⟩ (.int .i64 m))).set rfl).set rfl).set rfl).set rfl) (bdr (Below.refl _ _))
                   have BR:Below w.heap.size w (((((wc.setCell ⟨w.heap.size+1,1,none⟩ (.int .i64 m)).setCell ⟨w.heap.size,0,none⟩ (.int .i64 4)).setCell ⟨w.heap.size,1,none⟩ (.int .i64 m)).setCell ⟨w.heap.size,2,none⟩ (.int .i64 0)).setCell ⟨w.heap.size,3,none⟩ (.slice none 0 0)).drew:=bdr (bst (bst (bst (bst PW.out _ _ _ (Nat.le_refl _)) _ _ _ (Nat.le_refl _)) _ _ _ (Nat.le_refl _)) _ _ _ (Nat.le_refl _))
                   have KK:Kept (fun k=>k=w.heap.size∨k=w.heap.size+1) wc _:=((Kept.refl _ _).set (.inr rfl)).trans KR (fun _ _ h=>.inl h)
                   exact ⟨.mk 4 m 0 none 0 0 [],_,_,_,ok,rfl,(fun e=>⟨_,leafOk,leafFr,(HR.out.tail2).kept KK (fun b o e=>by cases e;have:=HA.out _ _ rfl;omega),(rdi_mark ho).2 ⟨x,rfl,(HM.out e).1,by rw [zeroM,(HM.out e).2]⟩,(List.suffix_cons _ _).trans (List.suffix_cons _ _),(fun b3 o3 e=>by cases e;exact ADR.out _ _ rfl)⟩),(fun e t r k=>by obtain ⟨x',e',e2,_⟩:=(rdi_mark ho).1 k;cases e';exact e2 (HLN.out e)),BR⟩)
end Go.Proofs.YtancajcelmhnkaaGreatDoor
