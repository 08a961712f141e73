/- ref16.read at any words: before. (Printed by gen4/rrd.py.) -/
import Derived.Test.YtancajcelmhnkaaGreatDoorRrd
import Derived.Test.YtancajcelmhnkaaGreatDoorHs
set_option maxRecDepth 100000
set_option maxHeartbeats 8000000
namespace Go.Proofs.YtancajcelmhnkaaGreatDoor
open Go.RowKit Go.Sort Go.Shelf
set_option linter.unusedVariables false
set_option linter.unusedSimpArgs false
theorem rread_c (N:Nat) (ih:Rf N) (s:ByteArray) (rest:List ByteArray) (hN:rest.length≤N) (hw2:(s :: rest).length≤1000) (w:World) (a:Option Addr) (m c:Nat) (hset:opV s=7) (h:WsV w a m c (s :: rest)):Calls Tryz.prog 83 #[.slice a m c] w (RfP w a (s :: rest)):=by
  obtain ⟨b,off,rfl,rfl,hc0⟩:=h.first
  have HV:=hid h;have IH:=hid ih
  have hcap:=h.cap
  have hbl:b<w.heap.size:=World.block_lt_of_cell? w _ hc0
  have hop:=opV_le s
  have hr1:rest.length≤999:=by simp at hw2;omega
  clear h ih hw2
  obtain ⟨n,hn⟩:∃ n,rest.length=n:=⟨_,rfl⟩
  have HNL:=hid hn
  rw [hn] at HV hcap hN hr1 ⊢
  clear hn
  obtain ⟨W,hW⟩:∃ W,(w.alloc (.cells #[.int .i64 0,.int .i64 0,.int .i64 0,.slice none 0 0] 24)).alloc (.cells #[.int .i64 0,.int .i64 0,.int .i64 0,.slice none 0 0] 24)=W:=⟨_,rfl⟩
  have B0:RowKit.Hid (Blk W w.heap.size 24 #[.int .i64 0,.int .i64 0,.int .i64 0,.slice none 0 0]):=by show Blk _ _ _ _;rw [← hW];exact (Blk.new w _ _).alloc _
  have B5:RowKit.Hid (Blk W (w.heap.size+1) 24 #[.int .i64 0,.int .i64 0,.int .i64 0,.slice none 0 0]):=by show Blk _ _ _ _;rw [← hW];exact Blk.fresh (by simp)
  have BB:RowKit.Hid (Below w.heap.size w W):=by show Below _ _ _;rw [← hW];exact Bw.out
  go_enter Tryz.func83,Tryz.ntmps83
  go_wp2_with (refine wpList_store_row rfl 24 (.tmp 5) (.tmp 18) rfl (w.heap.size+1) #[.int .i64 0,.int .i64 0,.int .i64 0,.slice none 0 0] rfl rfl _ _ B5.out tmInfo rfl (tm_one _ _ _ _ _ _) ?_)
  have C5:=hid (setRow_heap W (w.heap.size+1) _ #[.int .i64 0,.int .i64 0,.int .i64 0,.slice none 0 0] _ _ B5.out)
  have C0:RowKit.Hid (Blk (W.setRow (w.heap.size+1) #[.int .i64 0,.int .i64 0,.int .i64 0,.slice none 0 0]) w.heap.size 24 #[.int .i64 0,.int .i64 0,.int .i64 0,.slice none 0 0]):=hid ((setRow_other _ _ _ _ (by omega)).trans B0.out)
  have CB:=hid (below_setRow BB.out (Nat.le_succ w.heap.size) #[.int .i64 0,.int .i64 0,.int .i64 0,.slice none 0 0])
  go_loopw [6] (fun i wr=>∃ p:Nat,1≤p∧p≤12∧i=.int .i64 p∧Blk wr w.heap.size 24 #[.int .i64 0,.int .i64 0,.int .i64 0,.slice none 0 0]∧Blk wr (w.heap.size+1) 24 #[.int .i64 (if opV s<p then opV s else 0),.int .i64 0,.int .i64 0,.slice none 0 0]∧Below w.heap.size w wr) (fun i _=>12 - (intOf i).toNat)
  case atStart=>exact ⟨1,Nat.le_refl _,by decide,rfl,C0.out,by
    have e:(if opV s<((1:Nat):Int) then opV s else 0)=0:=by split <;> omega
    rw [e];exact C5.out,CB.out⟩
  case round =>
    obtain ⟨p,hp1,hp2,rfl,hb0,hb5,hbw⟩:=hrel
    have D0:=hid hb0;have D5:=hid hb5;have DW:=hid hbw
    have yb:=hbw.size
    have yl:=hb5.lt
    clear hb0 hb5 hbw
    by_cases hlt:p≤11
    · have HO:=hid fun W=>rops_any p hp1 hlt W
      have HQ:=hid (opV_eq s p hp1 hlt)
      obtain ⟨ow,how⟩:∃ t,opWord p=t:=⟨_,rfl⟩
      rw [how] at HO HQ
      have c0:=hid (bc1 DW.out hc0)
      clear how
      by_cases he:opV s=p
      · have q0:(ow.toList == s.toList)=true:=by rw [HQ.out];simpa using he
        go_upto_region 7 with fail
        go_region_held3 (fun w'=>w'.cell? ⟨b,off,none⟩=some (.string s)) (first | exact c0.out | exact bc1 E1.out c0.out)
          (first
            | (go_at_call 115;(with_reducible refine (HO.out _).mono ?_);rintro e w1 ⟨rfl,hb⟩;have E1:RowKit.Hid (Below wr.heap.size wr w1):=hid (btr Bw.out hb);have E5:=hid (D5.out.below E1.out);have z0:w1.cell? ⟨w.heap.size+1,0,none⟩=some (.int .i64 (if opV s<p then opV s else 0)):=E5.out.cell 0;have f0:=E5.out.free 0;have yl1:=E5.out.lt;clear hb)
            | fail)
        go_wp2
        go_roundw
        case rel =>
          refine ⟨p+1,by omega,by omega,by go_num,?_,?_,?_⟩
          · exact Kept.blk (S:=fun k=>k=w.heap.size+1) ((Kept.refl _ _).set rfl) (D0.out.below E1.out) (by show ¬ _=_;omega)
          · have:=E5.out.put 0 (.int .i64 p)
            rw [if_pos (show opV s<((p+1:Nat):Int) by omega),he]
            simpa using this
          · exact bst (btr DW.out E1.out) _ _ _ (Nat.le_succ _)
        case measure=>simp [intOf];omega
      · have q0:(ow.toList == s.toList)=false:=by rw [HQ.out];simpa using he
        go_upto_region 7 with fail
        go_region_held3 (fun w'=>w'.cell? ⟨b,off,none⟩=some (.string s)) (first | exact c0.out | exact bc1 E1.out c0.out)
          (first
            | (go_at_call 115;(with_reducible refine (HO.out _).mono ?_);rintro e w1 ⟨rfl,hb⟩;have E1:RowKit.Hid (Below wr.heap.size wr w1):=hid (btr Bw.out hb);have E5:=hid (D5.out.below E1.out);have z0:w1.cell? ⟨w.heap.size+1,0,none⟩=some (.int .i64 (if opV s<p then opV s else 0)):=E5.out.cell 0;have f0:=E5.out.free 0;have yl1:=E5.out.lt;clear hb)
            | fail)
        go_wp2
        go_roundw
        case rel =>
          refine ⟨p+1,by omega,by omega,by go_num,D0.out.below E1.out,?_,btr DW.out E1.out⟩
          have e:(if opV s<((p+1:Nat):Int) then opV s else 0)=(if opV s<(p:Int) then opV s else 0):=by
            by_cases h1:opV s<(p:Int)
            · rw [if_pos h1,if_pos (by omega)]
            · rw [if_neg h1,if_neg (by omega)]
          rw [e];exact E5.out
        case measure=>simp [intOf];omega
    · obtain rfl:p=12:=by omega
      have e:(if opV s<((12:Nat):Int) then opV s else 0)=opV s:=if_pos (by omega)
      rw [e] at D5
      clear e
      have x5:wr.cell? ⟨w.heap.size+1,0,none⟩=some (.int .i64 (opV s)):=D5.out.cell 0
      have HVW:=hid (HV.out.below DW.out)
      go_upto_region 9 with fail
      go_cut [0] (fun v wx=>∃ (a':Option Addr) (c':Nat),v=.slice a' n c'∧WsV wx a' n c' rest∧(∀ b' o,a'=some ⟨b',o,none⟩→b'=b)∧wx=wr)
      case first =>
        by_cases hc1:c=1
        · subst hc1
          obtain rfl:n=0:=by omega
          go_wp2
          go_meet
          case rel=>exact ⟨_,_,rfl,HVW.out.tail1,(fun b' o e=>by cases e;rfl),rfl⟩
        · have hc2:¬ (1:Nat)=c:=by omega
          have hc3:1<c:=by omega
          go_wp2
          go_meet
          case rel =>
            have:=HVW.out.tail2
            rw [HNL.out] at this
            exact ⟨_,_,rfl,this,(fun b' o e=>by cases e;rfl),rfl⟩
      case rest =>
        obtain ⟨a',c',rfl,hv',ha',rfl⟩:=hcut
        have HR:=hid hv';have HA:=hid ha'
        have ADR:RowKit.Hid (∀ b' o',a'=some ⟨b',o',none⟩→∃ o0,some (⟨b,off,none⟩:Addr)=some ⟨b',o0,none⟩):=hid fun b' o' e=>⟨off,by rw [HA.out b' o' e]⟩
        clear hv' ha'
        clear hop
        have ho:=hset
        rw [ho] at x5 D5
        ·
          cases rest with
          | nil =>
            obtain rfl:n=0:=by have:=HNL.out;simpa using this.symm
            go_wp2_with (refine wpList_store_row rfl 24 (.tmp 2) (.tmp 124) rfl w.heap.size #[.int .i64 0,.int .i64 0,.int .i64 0,.slice none 0 0] rfl rfl _ _ D0.out tmInfo rfl (tm_one _ _ _ _ _ _) ?_)
            have B9:=setRow_heap wc w.heap.size _ #[.int .i64 0,.int .i64 0,.int .i64 0,.slice none 0 0] _ _ D0.out
            refine bodyPost_ret (v:=.tuple #[.agg #[.int .i64 0,.int .i64 0,.int .i64 0,.slice none 0 0],.slice none 0 0,.bool false]) (by simp [results,Tryz.results83,go_sem,Blk.cell B9]) rfl ?_
            exact ⟨.mk 0 0 0 none 0 0 [],none,0,0,false,rfl,(fun h=>by cases h),(fun _ t r k=>by obtain ⟨x,y,v,e,_⟩:=(rdi_bef ho).1 k;cases e),below_setRow DW.out (Nat.le_refl _) _⟩
          | cons x tl =>
            obtain ⟨b',o',rfl,hn',hx⟩:=HR.out.first
            subst hn'
            have hcap':=HR.out.cap
            have HNU:=hid fun W=>rnumber_any x W
            cases hv:nuV x with
            | none =>
              rw [hv] at HNU
              have HNO:RowKit.Hid (∀ t r,¬ Rd (s :: x :: tl) t r):=hid fun t r k=>by
                obtain ⟨x',y',v',e,e2,_⟩:=(rdi_bef ho).1 k
                cases e;rw [hv] at e2;cases e2
              clear hv
              by_cases hc1:c'=1
              · subst hc1
                have hz:tl.length=0:=by omega
                obtain rfl:tl=[]:=List.eq_nil_of_length_eq_zero hz
                go_wp2_with (first
                  | (go_at_call 125;(with_reducible refine (HNU.out _).mono ?_);rintro e w1 ⟨rfl,hb⟩;have E1:RowKit.Hid (Below wc.heap.size wc w1):=hb;have E5:=hid (D5.out.below hb);have z0:w1.cell? ⟨w.heap.size+1,0,none⟩=some (.int .i64 7):=E5.out.cell 0;have z1:w1.cell? ⟨w.heap.size+1,1,none⟩=some (.int .i64 0):=E5.out.cell 1;have f1:=E5.out.free 1;have zl:=E5.out.lt;have P5:RowKit.Hid (Blk (w1.setCell ⟨w.heap.size+1,1,none⟩ (.int .i64 0)) (w.heap.size+1) 24 #[.int .i64 7,.int .i64 0,.int .i64 0,.slice none 0 0]):=hid (E5.out.put1 rfl);have P0:RowKit.Hid (Blk (w1.setCell ⟨w.heap.size+1,1,none⟩ (.int .i64 0)) w.heap.size 24 #[.int .i64 0,.int .i64 0,.int .i64 0,.slice none 0 0]):=hid (Kept.blk (S:=fun k=>k=w.heap.size+1) ((Kept.refl _ _).set rfl) (D0.out.below hb) (by show ¬ _=_;omega));have PW:RowKit.Hid (Below w.heap.size w (w1.setCell ⟨w.heap.size+1,1,none⟩ (.int .i64 0))):=hid (bst (btr DW.out hb) _ _ _ (Nat.le_succ _));have p0:(w1.setCell ⟨w.heap.size+1,1,none⟩ (.int .i64 0)).cell? ⟨w.heap.size+1,0,none⟩=some (.int .i64 7):=P5.out.cell 0;clear hb)
                  | (refine wpList_load_row rfl 24 (.tmp 5) rfl (w.heap.size+1) rfl _ #[.int .i64 7,.int .i64 0,.int .i64 0,.slice none 0 0] _ _ P5.out Tryz.underlying24 rfl tmInfo ?_)
                  | (refine wpList_store_row rfl 24 (.tmp 2) (.tmp 142) rfl w.heap.size #[.int .i64 7,.int .i64 0,.int .i64 0,.slice none 0 0] rfl rfl _ _ P0.out tmInfo rfl (tm_one _ _ _ _ _ _) ?_))
                have B9:=setRow_heap (w1.setCell ⟨w.heap.size+1,1,none⟩ (.int .i64 0)) w.heap.size _ #[.int .i64 7,.int .i64 0,.int .i64 0,.slice none 0 0] _ _ P0.out
                refine bodyPost_ret (v:=.tuple #[.agg #[.int .i64 7,.int .i64 0,.int .i64 0,.slice none 0 0],.slice (some ⟨b',o',none⟩) 0 0,.bool false]) (by simp [results,Tryz.results83,go_sem,Blk.cell B9]) rfl ?_
                exact ⟨.mk 7 0 0 none 0 0 [],_,_,_,false,rfl,(fun h=>by cases h),fun _=>HNO.out,below_setRow PW.out (Nat.le_refl _) _⟩
              · have hc2:¬ (1:Nat)=c':=by omega
                have hc3:1<c':=by omega
                go_wp2_with (first
                  | (go_at_call 125;(with_reducible refine (HNU.out _).mono ?_);rintro e w1 ⟨rfl,hb⟩;have E1:RowKit.Hid (Below wc.heap.size wc w1):=hb;have E5:=hid (D5.out.below hb);have z0:w1.cell? ⟨w.heap.size+1,0,none⟩=some (.int .i64 7):=E5.out.cell 0;have z1:w1.cell? ⟨w.heap.size+1,1,none⟩=some (.int .i64 0):=E5.out.cell 1;have f1:=E5.out.free 1;have zl:=E5.out.lt;have P5:RowKit.Hid (Blk (w1.setCell ⟨w.heap.size+1,1,none⟩ (.int .i64 0)) (w.heap.size+1) 24 #[.int .i64 7,.int .i64 0,.int .i64 0,.slice none 0 0]):=hid (E5.out.put1 rfl);have P0:RowKit.Hid (Blk (w1.setCell ⟨w.heap.size+1,1,none⟩ (.int .i64 0)) w.heap.size 24 #[.int .i64 0,.int .i64 0,.int .i64 0,.slice none 0 0]):=hid (Kept.blk (S:=fun k=>k=w.heap.size+1) ((Kept.refl _ _).set rfl) (D0.out.below hb) (by show ¬ _=_;omega));have PW:RowKit.Hid (Below w.heap.size w (w1.setCell ⟨w.heap.size+1,1,none⟩ (.int .i64 0))):=hid (bst (btr DW.out hb) _ _ _ (Nat.le_succ _));have p0:(w1.setCell ⟨w.heap.size+1,1,none⟩ (.int .i64 0)).cell? ⟨w.heap.size+1,0,none⟩=some (.int .i64 7):=P5.out.cell 0;clear hb)
                  | (refine wpList_load_row rfl 24 (.tmp 5) rfl (w.heap.size+1) rfl _ #[.int .i64 7,.int .i64 0,.int .i64 0,.slice none 0 0] _ _ P5.out Tryz.underlying24 rfl tmInfo ?_)
                  | (refine wpList_store_row rfl 24 (.tmp 2) (.tmp 142) rfl w.heap.size #[.int .i64 7,.int .i64 0,.int .i64 0,.slice none 0 0] rfl rfl _ _ P0.out tmInfo rfl (tm_one _ _ _ _ _ _) ?_))
                have B9:=setRow_heap (w1.setCell ⟨w.heap.size+1,1,none⟩ (.int .i64 0)) w.heap.size _ #[.int .i64 7,.int .i64 0,.int .i64 0,.slice none 0 0] _ _ P0.out
                refine bodyPost_ret (v:=.tuple #[.agg #[.int .i64 7,.int .i64 0,.int .i64 0,.slice none 0 0],.slice (some ⟨b',o'+1,none⟩) tl.length (c' - 1),.bool false]) (by simp [results,Tryz.results83,go_sem,Blk.cell B9]) rfl ?_
                exact ⟨.mk 7 0 0 none 0 0 [],_,_,_,false,rfl,(fun h=>by cases h),fun _=>HNO.out,below_setRow PW.out (Nat.le_refl _) _⟩
            | some v =>
              rw [hv] at HNU
              have HNV:=hid hv
              clear hv
              cases tl with
              | nil =>
                have h0:([]:List ByteArray).length=0:=rfl
                rw [h0] at HR hcap' ⊢
                by_cases hc1:c'=1
                · subst hc1
                  go_wp2_with (first
                    | (go_at_call 125;(with_reducible refine (HNU.out _).mono ?_);rintro e w1 ⟨rfl,hb⟩;have E1:RowKit.Hid (Below wc.heap.size wc w1):=hb;have E5:=hid (D5.out.below hb);have z0:w1.cell? ⟨w.heap.size+1,0,none⟩=some (.int .i64 7):=E5.out.cell 0;have z1:w1.cell? ⟨w.heap.size+1,1,none⟩=some (.int .i64 0):=E5.out.cell 1;have f1:=E5.out.free 1;have zl:=E5.out.lt;have P5:RowKit.Hid (Blk (w1.setCell ⟨w.heap.size+1,1,none⟩ (.int .i64 v)) (w.heap.size+1) 24 #[.int .i64 7,.int .i64 v,.int .i64 0,.slice none 0 0]):=hid (E5.out.put1 rfl);have P0:RowKit.Hid (Blk (w1.setCell ⟨w.heap.size+1,1,none⟩ (.int .i64 v)) w.heap.size 24 #[.int .i64 0,.int .i64 0,.int .i64 0,.slice none 0 0]):=hid (Kept.blk (S:=fun k=>k=w.heap.size+1) ((Kept.refl _ _).set rfl) (D0.out.below hb) (by show ¬ _=_;omega));have PW:RowKit.Hid (Below w.heap.size w (w1.setCell ⟨w.heap.size+1,1,none⟩ (.int .i64 v))):=hid (bst (btr DW.out hb) _ _ _ (Nat.le_succ _));have p0:(w1.setCell ⟨w.heap.size+1,1,none⟩ (.int .i64 v)).cell? ⟨w.heap.size+1,0,none⟩=some (.int .i64 7):=P5.out.cell 0;clear hb)
                    | (refine wpList_store_row rfl 24 (.tmp 2) (.tmp 148) rfl w.heap.size #[.int .i64 0,.int .i64 0,.int .i64 0,.slice none 0 0] rfl rfl _ _ P0.out tmInfo rfl (tm_one _ _ _ _ _ _) ?_))
                  have B9:=setRow_heap (w1.setCell ⟨w.heap.size+1,1,none⟩ (.int .i64 v)) w.heap.size _ #[.int .i64 0,.int .i64 0,.int .i64 0,.slice none 0 0] _ _ P0.out
                  refine bodyPost_ret (v:=.tuple #[.agg #[.int .i64 0,.int .i64 0,.int .i64 0,.slice none 0 0],.slice none 0 0,.bool false]) (by simp [results,Tryz.results83,go_sem,Blk.cell B9]) rfl ?_
                  exact ⟨.mk 0 0 0 none 0 0 [],none,0,0,false,rfl,(fun h=>by cases h),(fun _ t r k=>by obtain ⟨x,y,v,e,_⟩:=(rdi_bef ho).1 k;cases e),below_setRow PW.out (Nat.le_refl _) _⟩
                · have hc2:¬ (1:Nat)=c':=by omega
                  have hc3:1<c':=by omega
                  go_wp2_with (first
                    | (go_at_call 125;(with_reducible refine (HNU.out _).mono ?_);rintro e w1 ⟨rfl,hb⟩;have E1:RowKit.Hid (Below wc.heap.size wc w1):=hb;have E5:=hid (D5.out.below hb);have z0:w1.cell? ⟨w.heap.size+1,0,none⟩=some (.int .i64 7):=E5.out.cell 0;have z1:w1.cell? ⟨w.heap.size+1,1,none⟩=some (.int .i64 0):=E5.out.cell 1;have f1:=E5.out.free 1;have zl:=E5.out.lt;have P5:RowKit.Hid (Blk (w1.setCell ⟨w.heap.size+1,1,none⟩ (.int .i64 v)) (w.heap.size+1) 24 #[.int .i64 7,.int .i64 v,.int .i64 0,.slice none 0 0]):=hid (E5.out.put1 rfl);have P0:RowKit.Hid (Blk (w1.setCell ⟨w.heap.size+1,1,none⟩ (.int .i64 v)) w.heap.size 24 #[.int .i64 0,.int .i64 0,.int .i64 0,.slice none 0 0]):=hid (Kept.blk (S:=fun k=>k=w.heap.size+1) ((Kept.refl _ _).set rfl) (D0.out.below hb) (by show ¬ _=_;omega));have PW:RowKit.Hid (Below w.heap.size w (w1.setCell ⟨w.heap.size+1,1,none⟩ (.int .i64 v))):=hid (bst (btr DW.out hb) _ _ _ (Nat.le_succ _));have p0:(w1.setCell ⟨w.heap.size+1,1,none⟩ (.int .i64 v)).cell? ⟨w.heap.size+1,0,none⟩=some (.int .i64 7):=P5.out.cell 0;clear hb)
                    | (refine wpList_store_row rfl 24 (.tmp 2) (.tmp 148) rfl w.heap.size #[.int .i64 0,.int .i64 0,.int .i64 0,.slice none 0 0] rfl rfl _ _ P0.out tmInfo rfl (tm_one _ _ _ _ _ _) ?_))
                  have B9:=setRow_heap (w1.setCell ⟨w.heap.size+1,1,none⟩ (.int .i64 v)) w.heap.size _ #[.int .i64 0,.int .i64 0,.int .i64 0,.slice none 0 0] _ _ P0.out
                  refine bodyPost_ret (v:=.tuple #[.agg #[.int .i64 0,.int .i64 0,.int .i64 0,.slice none 0 0],.slice none 0 0,.bool false]) (by simp [results,Tryz.results83,go_sem,Blk.cell B9]) rfl ?_
                  exact ⟨.mk 0 0 0 none 0 0 [],none,0,0,false,rfl,(fun h=>by cases h),(fun _ t r k=>by obtain ⟨x,y,v,e,_⟩:=(rdi_bef ho).1 k;cases e),below_setRow PW.out (Nat.le_refl _) _⟩
              | cons x2 tl2 =>
                obtain ⟨m2,hm2⟩:∃ m,tl2.length=m:=⟨_,rfl⟩
                have hm3:(x2 :: tl2).length=m2+1:=by rw [← hm2];rfl
                rw [hm3] at HR hcap' ⊢
                have hc2:¬ (1:Nat)=c':=by omega
                have hc3:1<c':=by omega
                have HR2:=hid HR.out.tail2
                obtain ⟨cq,hcq⟩:∃ q,c' - 1=q:=⟨_,rfl⟩
                rw [hm3,hcq] at HR2
                obtain ⟨b4,o4,e4,-,hx2⟩:=HR2.out.first
                cases e4
                have hcapq:=HR2.out.cap
                have hlb':b'<w.heap.size:=by have:=HA.out _ _ rfl;omega
                have HM2:=hid hm2
                clear hm3 hm2
                obtain ⟨ok,hok⟩:∃ ok,decide (letV x2 ≠ 0)=ok:=⟨_,rfl⟩
                have HLT:RowKit.Hid (∀ W,Calls Tryz.prog 124 #[.string x2] W fun e w'=>∃ m:Int,e=.returned (.tuple #[.int .i64 m,.bool ok])∧(ok=true→letV x2 ≠ 0∧m=letV x2)∧w'=W):=hid fun W=>(rletter_any x2 W).mono fun e w' ⟨m,he,hm,hw⟩=>⟨m,by rw [he,hok],fun h=>by rw [← hok] at h;exact ⟨of_decide_eq_true h,hm (of_decide_eq_true h)⟩,hw⟩
                have HLN:RowKit.Hid (ok=false→letV x2=0):=hid fun h=>by rw [← hok] at h;exact Decidable.not_not.1 (of_decide_eq_false h)
                clear hok
                go_upto_region 46 with (first
                  | (go_at_call 125;(with_reducible refine (HNU.out _).mono ?_);rintro e w1 ⟨rfl,hb⟩;have E1:RowKit.Hid (Below wc.heap.size wc w1):=hb;have E5:=hid (D5.out.below hb);have z0:w1.cell? ⟨w.heap.size+1,0,none⟩=some (.int .i64 7):=E5.out.cell 0;have z1:w1.cell? ⟨w.heap.size+1,1,none⟩=some (.int .i64 0):=E5.out.cell 1;have f1:=E5.out.free 1;have zl:=E5.out.lt;have P5:RowKit.Hid (Blk (w1.setCell ⟨w.heap.size+1,1,none⟩ (.int .i64 v)) (w.heap.size+1) 24 #[.int .i64 7,.int .i64 v,.int .i64 0,.slice none 0 0]):=hid (E5.out.put1 rfl);have P0:RowKit.Hid (Blk (w1.setCell ⟨w.heap.size+1,1,none⟩ (.int .i64 v)) w.heap.size 24 #[.int .i64 0,.int .i64 0,.int .i64 0,.slice none 0 0]):=hid (Kept.blk (S:=fun k=>k=w.heap.size+1) ((Kept.refl _ _).set rfl) (D0.out.below hb) (by show ¬ _=_;omega));have PW:RowKit.Hid (Below w.heap.size w (w1.setCell ⟨w.heap.size+1,1,none⟩ (.int .i64 v))):=hid (bst (btr DW.out hb) _ _ _ (Nat.le_succ _));have p0:(w1.setCell ⟨w.heap.size+1,1,none⟩ (.int .i64 v)).cell? ⟨w.heap.size+1,0,none⟩=some (.int .i64 7):=P5.out.cell 0;have px:(w1.setCell ⟨w.heap.size+1,1,none⟩ (.int .i64 v)).cell? ⟨b',o'+1,none⟩=some (.string x2):=kset (bc1 E1.out hx2) (by omega);have p2:(w1.setCell ⟨w.heap.size+1,1,none⟩ (.int .i64 v)).cell? ⟨w.heap.size+1,2,none⟩=some (.int .i64 0):=P5.out.cell 2;have pf:=P5.out.free 2;have pl:=P5.out.lt;clear hb)
                  | fail)
                obtain ⟨WX,hWX⟩:∃ X,(w1.setCell ⟨w.heap.size+1,1,none⟩ (.int .i64 v))=X:=⟨_,rfl⟩
                have KX:RowKit.Hid (Kept (fun k=>k=w.heap.size∨k=w.heap.size+1) wc WX):=hid (by rw [← hWX];exact (Kept.behind (Kept.refl _ _) E1.out).set (.inr rfl))
                rw [hWX] at P5 P0 PW px p2 pf pl ⊢
                clear hWX z0 z1 f1 zl E5 E1 p0 HNU
                go_upto_region 47 with (first
                  | (go_at_call 124;(with_reducible refine (HLT.out _).mono ?_);rintro e w2 ⟨m,rfl,hm,h1⟩;have HM:=hid hm;have h2:=h1.symm;subst h2;have Q5:RowKit.Hid (Blk (WX.setCell ⟨w.heap.size+1,2,none⟩ (.int .i64 m)) (w.heap.size+1) 24 #[.int .i64 7,.int .i64 v,.int .i64 m,.slice none 0 0]):=hid (P5.out.put1 rfl);have Q0:RowKit.Hid (Blk (WX.setCell ⟨w.heap.size+1,2,none⟩ (.int .i64 m)) w.heap.size 24 #[.int .i64 0,.int .i64 0,.int .i64 0,.slice none 0 0]):=hid (Kept.blk (S:=fun k=>k=w.heap.size+1) ((Kept.refl _ _).set rfl) P0.out (by show ¬ _=_;omega));have QW:RowKit.Hid (Below w.heap.size w (WX.setCell ⟨w.heap.size+1,2,none⟩ (.int .i64 m))):=hid (bst PW.out _ _ _ (Nat.le_succ _));clear hm)
                  | fail)
                obtain ⟨WY,hWY⟩:∃ X,(WX.setCell ⟨w.heap.size+1,2,none⟩ (.int .i64 m))=X:=⟨_,rfl⟩
                have KY:RowKit.Hid (Kept (fun k=>k=w.heap.size∨k=w.heap.size+1) wc WY):=hid (by rw [← hWY];exact KX.out.set (.inr rfl))
                rw [hWY] at Q5 Q0 QW ⊢
                clear hWY P5 P0 PW px p2 pf pl KX HLT hx hx2
                by_cases hq1:cq=1
                · subst hq1
                  obtain rfl:m2=0:=by omega
                  have zr0:WY.cell? ⟨w.heap.size,0,none⟩=some (.int .i64 0):=Q0.out.cell 0
                  have zr1:WY.cell? ⟨w.heap.size,1,none⟩=some (.int .i64 0):=Q0.out.cell 1
                  have zr2:WY.cell? ⟨w.heap.size,2,none⟩=some (.int .i64 0):=Q0.out.cell 2
                  have zr3:WY.cell? ⟨w.heap.size,3,none⟩=some (.slice none 0 0):=Q0.out.cell 3
                  have fr0:=Q0.out.free 0
                  have fr1:=Q0.out.free 1
                  have fr2:=Q0.out.free 2
                  have fr3:=Q0.out.free 3
                  have lr:=Q0.out.lt
                  go_upto_region 47 with fail
                  go_region_held3 (fun w'=>w'.cell? ⟨w.heap.size+1,0,none⟩=some (.int .i64 7)∧w'.cell? ⟨w.heap.size+1,1,none⟩=some (.int .i64 v)∧w'.cell? ⟨w.heap.size+1,2,none⟩=some (.int .i64 m)∧w'.cell? ⟨w.heap.size+1,3,none⟩=some (.slice none 0 0)) (with_reducible first | exact Q5.out.c4 | exact Q5.out.drew.c4 | exact c4f (by omega) Q5.out.c4 | exact c4fd (by omega) Q5.out.c4) (first | fail)
                  all_goals
                    go_wp2
                    first
                    | (have B9:Blk ((((WY.setCell ⟨w.heap.size,0,none⟩ (.int .i64 7)).setCell ⟨w.heap.size,1,none⟩ (.int .i64 v)).setCell ⟨w.heap.size,2,none⟩ (.int .i64 m)).setCell ⟨w.heap.size,3,none⟩ (.slice none 0 0)) w.heap.size 24 #[.int .i64 7,.int .i64 v,.int .i64 m,.slice none 0 0]:=Blk.put4f (v0:=.int .i64 7) (v1:=.int .i64 v) (v2:=.int .i64 m) (v3:=.slice none 0 0) Q0.out rfl
                       refine bodyPost_ret (v:=.tuple #[.agg #[.int .i64 7,.int .i64 v,.int .i64 m,.slice none 0 0],.slice (some ⟨b',o'+1,none⟩) 0 0,.bool ok]) (by simp [results,Tryz.results83,go_sem,Blk.cell B9]) rfl ?_
                       have KR:Kept (fun k=>k=w.heap.size) WY ((((WY.setCell ⟨w.heap.size,0,none⟩ (.int .i64 7)).setCell ⟨w.heap.size,1,none⟩ (.int .i64 v)).setCell ⟨w.heap.size,2,none⟩ (.int .i64 m)).setCell ⟨w.heap.size,3,none⟩ (.slice none 0 0)):=((((Kept.refl (fun k=>k=w.heap.size) WY).set rfl).set rfl).set rfl).set rfl
                       have BR:Below w.heap.size w ((((WY.setCell ⟨w.heap.size,0,none⟩ (.int .i64 7)).setCell ⟨w.heap.size,1,none⟩ (.int .i64 v)).setCell ⟨w.heap.size,2,none⟩ (.int .i64 m)).setCell ⟨w.heap.size,3,none⟩ (.slice none 0 0)):=bst (bst (bst (bst QW.out _ _ _ (Nat.le_refl _)) _ _ _ (Nat.le_refl _)) _ _ _ (Nat.le_refl _)) _ _ _ (Nat.le_refl _)
                       have KK:Kept (fun k=>k=w.heap.size∨k=w.heap.size+1) wc _:=KY.out.trans KR (fun _ _ h=>.inl h)
                       exact ⟨.mk 7 v m none 0 0 [],_,_,_,ok,rfl,(fun e=>⟨_,leafOk,leafFr,(HR2.out.tail1).kept KK (fun b o e=>by cases e;have:=HA.out _ _ rfl;omega),(rdi_bef ho).2 ⟨x,x2,v,rfl,HNV.out,(HM.out e).1,by rw [zeroM,(HM.out e).2]⟩,((List.suffix_cons _ _).trans (List.suffix_cons _ _)).trans (List.suffix_cons _ _),(fun b3 o3 e=>by cases e;exact ADR.out _ _ rfl)⟩),(fun e t r k=>by obtain ⟨x',y',n',e',-,e2,_⟩:=(rdi_bef ho).1 k;cases e';exact e2 (HLN.out e)),BR⟩)
                    | (have B9:Blk ((((WY.setCell ⟨w.heap.size,0,none⟩ (.int .i64 7)).setCell ⟨w.heap.size,1,none⟩ (.int .i64 v)).setCell ⟨w.heap.size,2,none⟩ (.int .i64 m)).setCell ⟨w.heap.size,3,none⟩ (.slice none 0 0)).drew w.heap.size 24 #[.int .i64 7,.int .i64 v,.int .i64 m,.slice none 0 0]:=Blk.put4f (v0:=.int .i64 7) (v1:=.int .i64 v) (v2:=.int .i64 m) (v3:=.slice none 0 0) Q0.out rfl
                       refine bodyPost_ret (v:=.tuple #[.agg #[.int .i64 7,.int .i64 v,.int .i64 m,.slice none 0 0],.slice (some ⟨b',o'+1,none⟩) 0 0,.bool ok]) (by simp [results,Tryz.results83,go_sem,Blk.cell B9]) rfl ?_
                       have KR:Kept (fun k=>k=w.heap.size) WY ((((WY.setCell ⟨w.heap.size,0,none⟩ (.int .i64 7)).setCell ⟨w.heap.size,1,none⟩ (.int .i64 v)).setCell ⟨w.heap.size,2,none⟩ (.int .i64 m)).setCell ⟨w.heap.size,3,none⟩ (.slice none 0 0)).drew:=Kept.behind (((((Kept.refl (fun k=>k=w.heap.size) WY).set rfl).set rfl).set rfl).set rfl) (bdr (Below.refl _ _))
                       have BR:Below w.heap.size w ((((WY.setCell ⟨w.heap.size,0,none⟩ (.int .i64 7)).setCell ⟨w.heap.size,1,none⟩ (.int .i64 v)).setCell ⟨w.heap.size,2,none⟩ (.int .i64 m)).setCell ⟨w.heap.size,3,none⟩ (.slice none 0 0)).drew:=bdr (bst (bst (bst (bst QW.out _ _ _ (Nat.le_refl _)) _ _ _ (Nat.le_refl _)) _ _ _ (Nat.le_refl _)) _ _ _ (Nat.le_refl _))
                       have KK:Kept (fun k=>k=w.heap.size∨k=w.heap.size+1) wc _:=KY.out.trans KR (fun _ _ h=>.inl h)
                       exact ⟨.mk 7 v m none 0 0 [],_,_,_,ok,rfl,(fun e=>⟨_,leafOk,leafFr,(HR2.out.tail1).kept KK (fun b o e=>by cases e;have:=HA.out _ _ rfl;omega),(rdi_bef ho).2 ⟨x,x2,v,rfl,HNV.out,(HM.out e).1,by rw [zeroM,(HM.out e).2]⟩,((List.suffix_cons _ _).trans (List.suffix_cons _ _)).trans (List.suffix_cons _ _),(fun b3 o3 e=>by cases e;exact ADR.out _ _ rfl)⟩),(fun e t r k=>by obtain ⟨x',y',n',e',-,e2,_⟩:=(rdi_bef ho).1 k;cases e';exact e2 (HLN.out e)),BR⟩)
                · have hq2:¬ (1:Nat)=cq:=by omega
                  have hq3:1<cq:=by omega
                  have j1:(m2:Int)+1≤(cq:Int):=by omega
                  have j2:(1:Int)≤(cq:Int):=by omega
                  have j3:(1:Int)≤(m2:Int)+1:=by omega
                  have zr0:WY.cell? ⟨w.heap.size,0,none⟩=some (.int .i64 0):=Q0.out.cell 0
                  have zr1:WY.cell? ⟨w.heap.size,1,none⟩=some (.int .i64 0):=Q0.out.cell 1
                  have zr2:WY.cell? ⟨w.heap.size,2,none⟩=some (.int .i64 0):=Q0.out.cell 2
                  have zr3:WY.cell? ⟨w.heap.size,3,none⟩=some (.slice none 0 0):=Q0.out.cell 3
                  have fr0:=Q0.out.free 0
                  have fr1:=Q0.out.free 1
                  have fr2:=Q0.out.free 2
                  have fr3:=Q0.out.free 3
                  have lr:=Q0.out.lt
                  go_upto_region 47 with fail
                  go_region_held3 (fun w'=>w'.cell? ⟨w.heap.size+1,0,none⟩=some (.int .i64 7)∧w'.cell? ⟨w.heap.size+1,1,none⟩=some (.int .i64 v)∧w'.cell? ⟨w.heap.size+1,2,none⟩=some (.int .i64 m)∧w'.cell? ⟨w.heap.size+1,3,none⟩=some (.slice none 0 0)) (with_reducible first | exact Q5.out.c4 | exact Q5.out.drew.c4 | exact c4f (by omega) Q5.out.c4 | exact c4fd (by omega) Q5.out.c4) (first | fail)
                  all_goals
                    go_wp2
                    first
                    | (have B9:Blk ((((WY.setCell ⟨w.heap.size,0,none⟩ (.int .i64 7)).setCell ⟨w.heap.size,1,none⟩ (.int .i64 v)).setCell ⟨w.heap.size,2,none⟩ (.int .i64 m)).setCell ⟨w.heap.size,3,none⟩ (.slice none 0 0)) w.heap.size 24 #[.int .i64 7,.int .i64 v,.int .i64 m,.slice none 0 0]:=Blk.put4f (v0:=.int .i64 7) (v1:=.int .i64 v) (v2:=.int .i64 m) (v3:=.slice none 0 0) Q0.out rfl
                       refine bodyPost_ret (v:=.tuple #[.agg #[.int .i64 7,.int .i64 v,.int .i64 m,.slice none 0 0],.slice (some ⟨b',o'+1+1,none⟩) m2 (cq - 1),.bool ok]) (by simp [results,Tryz.results83,go_sem,Blk.cell B9]) rfl ?_
                       have KR:Kept (fun k=>k=w.heap.size) WY ((((WY.setCell ⟨w.heap.size,0,none⟩ (.int .i64 7)).setCell ⟨w.heap.size,1,none⟩ (.int .i64 v)).setCell ⟨w.heap.size,2,none⟩ (.int .i64 m)).setCell ⟨w.heap.size,3,none⟩ (.slice none 0 0)):=((((Kept.refl (fun k=>k=w.heap.size) WY).set rfl).set rfl).set rfl).set rfl
                       have BR:Below w.heap.size w ((((WY.setCell ⟨w.heap.size,0,none⟩ (.int .i64 7)).setCell ⟨w.heap.size,1,none⟩ (.int .i64 v)).setCell ⟨w.heap.size,2,none⟩ (.int .i64 m)).setCell ⟨w.heap.size,3,none⟩ (.slice none 0 0)):=bst (bst (bst (bst QW.out _ _ _ (Nat.le_refl _)) _ _ _ (Nat.le_refl _)) _ _ _ (Nat.le_refl _)) _ _ _ (Nat.le_refl _)
                       have KK:Kept (fun k=>k=w.heap.size∨k=w.heap.size+1) wc _:=KY.out.trans KR (fun _ _ h=>.inl h)
                       exact ⟨.mk 7 v m none 0 0 [],_,_,_,ok,rfl,(fun e=>⟨_,leafOk,leafFr,(HR2.out.tail2').kept KK (fun b o e=>by cases e;have:=HA.out _ _ rfl;omega),(rdi_bef ho).2 ⟨x,x2,v,rfl,HNV.out,(HM.out e).1,by rw [zeroM,(HM.out e).2]⟩,((List.suffix_cons _ _).trans (List.suffix_cons _ _)).trans (List.suffix_cons _ _),(fun b3 o3 e=>by cases e;exact ADR.out _ _ rfl)⟩),(fun e t r k=>by obtain ⟨x',y',n',e',-,e2,_⟩:=(rdi_bef ho).1 k;cases e';exact e2 (HLN.out e)),BR⟩)
                    | (have B9:Blk ((((WY.setCell ⟨w.heap.size,0,none⟩ (.int .i64 7)).setCell ⟨w.heap.size,1,none⟩ (.int .i64 v)).setCell ⟨w.heap.size,2,none⟩ (.int .i64 m)).setCell ⟨w.heap.size,3,none⟩ (.slice none 0 0)).drew w.heap.size 24 #[.int .i64 7,.int .i64 v,.int .i64 m,.slice none 0 0]:=Blk.put4f (v0:=.int .i64 7) (v1:=.int .i64 v) (v2:=.int .i64 m) (v3:=.slice none 0 0) Q0.out rfl
                       refine bodyPost_ret (v:=.tuple #[.agg #[.int .i64 7,.int .i64 v,.int .i64 m,.slice none 0 0],.slice (some ⟨b',o'+1+1,none⟩) m2 (cq - 1),.bool ok]) (by simp [results,Tryz.results83,go_sem,Blk.cell B9]) rfl ?_
                       have KR:Kept (fun k=>k=w.heap.size) WY ((((WY.setCell ⟨w.heap.size,0,none⟩ (.int .i64 7)).setCell ⟨w.heap.size,1,none⟩ (.int .i64 v)).setCell ⟨w.heap.size,2,none⟩ (.int .i64 m)).setCell ⟨w.heap.size,3,none⟩ (.slice none 0 0)).drew:=Kept.behind (((((Kept.refl (fun k=>k=w.heap.size) WY).set rfl).set rfl).set rfl).set rfl) (bdr (Below.refl _ _))
                       have BR:Below w.heap.size w ((((WY.setCell ⟨w.heap.size,0,none⟩ (.int .i64 7)).setCell ⟨w.heap.size,1,none⟩ (.int .i64 v)).setCell ⟨w.heap.size,2,none⟩ (.int .i64 m)).setCell ⟨w.heap.size,3,none⟩ (.slice none 0 0)).drew:=bdr (bst (bst (bst (bst QW.out _ _ _ (Nat.le_refl _)) _ _ _ (Nat.le_refl _)) _ _ _ (Nat.le_refl _)) _ _ _ (Nat.le_refl _))
                       have KK:Kept (fun k=>k=w.heap.size∨k=w.heap.size+1) wc _:=KY.out.trans KR (fun _ _ h=>.inl h)
                       exact ⟨.mk 7 v m none 0 0 [],_,_,_,ok,rfl,(fun e=>⟨_,leafOk,leafFr,(HR2.out.tail2').kept KK (fun b o e=>by cases e;have:=HA.out _ _ rfl;omega),(rdi_bef ho).2 ⟨x,x2,v,rfl,HNV.out,(HM.out e).1,by rw [zeroM,(HM.out e).2]⟩,((List.suffix_cons _ _).trans (List.suffix_cons _ _)).trans (List.suffix_cons _ _),(fun b3 o3 e=>by cases e;exact ADR.out _ _ rfl)⟩),(fun e t r k=>by obtain ⟨x',y',n',e',-,e2,_⟩:=(rdi_bef ho).1 k;cases e';exact e2 (HLN.out e)),BR⟩)
end Go.Proofs.YtancajcelmhnkaaGreatDoor
