/- ref16.read at any words: or. (Printed by gen4/rrd.py.) -/
import Derived.Test.YtancajcelmhnkaaGreatDoorRrd
set_option maxRecDepth 100000
set_option maxHeartbeats 8000000
namespace Go.Proofs.YtancajcelmhnkaaGreatDoor
open Go.RowKit Go.Sort Go.Shelf
set_option linter.unusedVariables false
set_option linter.unusedSimpArgs false
theorem rread_f (N:Nat) (ih:Rf N) (s:ByteArray) (rest:List ByteArray) (hN:rest.length≤N) (hw2:(s :: rest).length≤1000) (w:World) (a:Option Addr) (m c:Nat) (hset:opV s=10) (h:WsV w a m c (s :: rest)):Calls Tryz.prog 83 #[.slice a m c] w (RfP w a (s :: rest)):=by
  obtain ⟨b,off,rfl,rfl,hc0⟩:=h.first
  have HV:=hid h;have IH:=hid ih
  have hcap:=h.cap
  have hbl:b<w.heap.size:=World.block_lt_of_cell? w _ hc0
  have hop:=opV_le s
  have hr1:rest.length≤999:=by simp at hw2;omega
  clear h ih hw2
  obtain ⟨n,hn⟩:∃ n,rest.length=n:=⟨_,rfl⟩
  have HNL:=hid hn
  rw [hn] at HV hcap hN hr1 ⊢
  clear hn
  obtain ⟨W,hW⟩:∃ W,(w.alloc (.cells #[.int .i64 0,.int .i64 0,.int .i64 0,.slice none 0 0] 24)).alloc (.cells #[.int .i64 0,.int .i64 0,.int .i64 0,.slice none 0 0] 24)=W:=⟨_,rfl⟩
  have B0:RowKit.Hid (Blk W w.heap.size 24 #[.int .i64 0,.int .i64 0,.int .i64 0,.slice none 0 0]):=by show Blk _ _ _ _;rw [← hW];exact (Blk.new w _ _).alloc _
  have B5:RowKit.Hid (Blk W (w.heap.size+1) 24 #[.int .i64 0,.int .i64 0,.int .i64 0,.slice none 0 0]):=by show Blk _ _ _ _;rw [← hW];exact Blk.fresh (by simp)
  have BB:RowKit.Hid (Below w.heap.size w W):=by show Below _ _ _;rw [← hW];exact Bw.out
  go_enter Tryz.func83,Tryz.ntmps83
  go_wp2_with (refine wpList_store_row rfl 24 (.tmp 5) (.tmp 18) rfl (w.heap.size+1) #[.int .i64 0,.int .i64 0,.int .i64 0,.slice none 0 0] rfl rfl _ _ B5.out tmInfo rfl (tm_one _ _ _ _ _ _) ?_)
  have C5:=hid (setRow_heap W (w.heap.size+1) _ #[.int .i64 0,.int .i64 0,.int .i64 0,.slice none 0 0] _ _ B5.out)
  have C0:RowKit.Hid (Blk (W.setRow (w.heap.size+1) #[.int .i64 0,.int .i64 0,.int .i64 0,.slice none 0 0]) w.heap.size 24 #[.int .i64 0,.int .i64 0,.int .i64 0,.slice none 0 0]):=hid ((setRow_other _ _ _ _ (by omega)).trans B0.out)
  have CB:=hid (below_setRow BB.out (Nat.le_succ w.heap.size) #[.int .i64 0,.int .i64 0,.int .i64 0,.slice none 0 0])
  go_loopw [6] (fun i wr=>∃ p:Nat,1≤p∧p≤12∧i=.int .i64 p∧Blk wr w.heap.size 24 #[.int .i64 0,.int .i64 0,.int .i64 0,.slice none 0 0]∧Blk wr (w.heap.size+1) 24 #[.int .i64 (if opV s<p then opV s else 0),.int .i64 0,.int .i64 0,.slice none 0 0]∧Below w.heap.size w wr) (fun i _=>12 - (intOf i).toNat)
  case atStart=>exact ⟨1,Nat.le_refl _,by decide,rfl,C0.out,by
    have e:(if opV s<((1:Nat):Int) then opV s else 0)=0:=by split <;> omega
    rw [e];exact C5.out,CB.out⟩
  case round =>
    obtain ⟨p,hp1,hp2,rfl,hb0,hb5,hbw⟩:=hrel
    have D0:=hid hb0;have D5:=hid hb5;have DW:=hid hbw
    have yb:=hbw.size
    have yl:=hb5.lt
    clear hb0 hb5 hbw
    by_cases hlt:p≤11
    · have HO:=hid fun W=>rops_any p hp1 hlt W
      have HQ:=hid (opV_eq s p hp1 hlt)
      obtain ⟨ow,how⟩:∃ t,opWord p=t:=⟨_,rfl⟩
      rw [how] at HO HQ
      have c0:=hid (bc1 DW.out hc0)
      clear how
      by_cases he:opV s=p
      · have q0:(ow.toList == s.toList)=true:=by rw [HQ.out];simpa using he
        go_upto_region 7 with fail
        go_region_held3 (fun w'=>w'.cell? ⟨b,off,none⟩=some (.string s)) (first | exact c0.out | exact bc1 E1.out c0.out)
          (first
            | (go_at_call 115;(with_reducible refine (HO.out _).mono ?_);rintro e w1 ⟨rfl,hb⟩;have E1:RowKit.Hid (Below wr.heap.size wr w1):=hid (btr Bw.out hb);have E5:=hid (D5.out.below E1.out);have z0:w1.cell? ⟨w.heap.size+1,0,none⟩=some (.int .i64 (if opV s<p then opV s else 0)):=E5.out.cell 0;have f0:=E5.out.free 0;have yl1:=E5.out.lt;clear hb)
            | fail)
        go_wp2
        go_roundw
        case rel =>
          refine ⟨p+1,by omega,by omega,by go_num,?_,?_,?_⟩
          · exact Kept.blk (S:=fun k=>k=w.heap.size+1) ((Kept.refl _ _).set rfl) (D0.out.below E1.out) (by show ¬ _=_;omega)
          · have:=E5.out.put 0 (.int .i64 p)
            rw [if_pos (show opV s<((p+1:Nat):Int) by omega),he]
            simpa using this
          · exact bst (btr DW.out E1.out) _ _ _ (Nat.le_succ _)
        case measure=>simp [intOf];omega
      · have q0:(ow.toList == s.toList)=false:=by rw [HQ.out];simpa using he
        go_upto_region 7 with fail
        go_region_held3 (fun w'=>w'.cell? ⟨b,off,none⟩=some (.string s)) (first | exact c0.out | exact bc1 E1.out c0.out)
          (first
            | (go_at_call 115;(with_reducible refine (HO.out _).mono ?_);rintro e w1 ⟨rfl,hb⟩;have E1:RowKit.Hid (Below wr.heap.size wr w1):=hid (btr Bw.out hb);have E5:=hid (D5.out.below E1.out);have z0:w1.cell? ⟨w.heap.size+1,0,none⟩=some (.int .i64 (if opV s<p then opV s else 0)):=E5.out.cell 0;have f0:=E5.out.free 0;have yl1:=E5.out.lt;clear hb)
            | fail)
        go_wp2
        go_roundw
        case rel =>
          refine ⟨p+1,by omega,by omega,by go_num,D0.out.below E1.out,?_,btr DW.out E1.out⟩
          have e:(if opV s<((p+1:Nat):Int) then opV s else 0)=(if opV s<(p:Int) then opV s else 0):=by
            by_cases h1:opV s<(p:Int)
            · rw [if_pos h1,if_pos (by omega)]
            · rw [if_neg h1,if_neg (by omega)]
          rw [e];exact E5.out
        case measure=>simp [intOf];omega
    · obtain rfl:p=12:=by omega
      have e:(if opV s<((12:Nat):Int) then opV s else 0)=opV s:=if_pos (by omega)
      rw [e] at D5
      clear e
      have x5:wr.cell? ⟨w.heap.size+1,0,none⟩=some (.int .i64 (opV s)):=D5.out.cell 0
      have HVW:=hid (HV.out.below DW.out)
      go_upto_region 9 with fail
      go_cut [0] (fun v wx=>∃ (a':Option Addr) (c':Nat),v=.slice a' n c'∧WsV wx a' n c' rest∧(∀ b' o,a'=some ⟨b',o,none⟩→b'=b)∧wx=wr)
      case first =>
        by_cases hc1:c=1
        · subst hc1
          obtain rfl:n=0:=by omega
          go_wp2
          go_meet
          case rel=>exact ⟨_,_,rfl,HVW.out.tail1,(fun b' o e=>by cases e;rfl),rfl⟩
        · have hc2:¬ (1:Nat)=c:=by omega
          have hc3:1<c:=by omega
          go_wp2
          go_meet
          case rel =>
            have:=HVW.out.tail2
            rw [HNL.out] at this
            exact ⟨_,_,rfl,this,(fun b' o e=>by cases e;rfl),rfl⟩
      case rest =>
        obtain ⟨a',c',rfl,hv',ha',rfl⟩:=hcut
        have HR:=hid hv';have HA:=hid ha'
        have ADR:RowKit.Hid (∀ b' o',a'=some ⟨b',o',none⟩→∃ o0,some (⟨b,off,none⟩:Addr)=some ⟨b',o0,none⟩):=hid fun b' o' e=>⟨off,by rw [HA.out b' o' e]⟩
        clear hv' ha'
        clear hop
        have ho:=hset
        rw [ho] at x5 D5
        ·
          cases rest with
          | nil =>
            obtain rfl:n=0:=by have:=HNL.out;simpa using this.symm
            go_wp2_with (refine wpList_store_row rfl 24 (.tmp 2) (.tmp 68) rfl w.heap.size #[.int .i64 0,.int .i64 0,.int .i64 0,.slice none 0 0] rfl rfl _ _ D0.out tmInfo rfl (tm_one _ _ _ _ _ _) ?_)
            have B9:=setRow_heap wc w.heap.size _ #[.int .i64 0,.int .i64 0,.int .i64 0,.slice none 0 0] _ _ D0.out
            refine bodyPost_ret (v:=.tuple #[.agg #[.int .i64 0,.int .i64 0,.int .i64 0,.slice none 0 0],.slice none 0 0,.bool false]) (by simp [results,Tryz.results83,go_sem,Blk.cell B9]) rfl ?_
            exact ⟨.mk 0 0 0 none 0 0 [],none,0,0,false,rfl,(fun h=>by cases h),(fun _ t r k=>by obtain ⟨ws1,ks,e,_⟩:=(rdi_list ho (by decide)).1 k;cases e),below_setRow DW.out (Nat.le_refl _) _⟩
          | cons s1 tl =>
            obtain ⟨b',o',rfl,hn',hx⟩:=HR.out.first
            have hcap':=HR.out.cap
            obtain ⟨n1,hn1⟩:∃ m,tl.length=m:=⟨_,rfl⟩
            have HN1:=hid hn1
            rw [hn1] at hn'
            clear hn1
            subst hn'
            have hlb':b'<w.heap.size:=by have:=HA.out _ _ rfl;omega
            have ine:((n1:Int)+1 == 0)=false:=by simp;omega
            by_cases hop1:s1=wOpen
            · subst hop1
              have hx':wc.cell? ⟨b',o',none⟩=some (.string ⟨#[40]⟩):=hx
              clear hx
              go_upto_region 24 with fail
              go_cut [0] (fun v wx=>∃ (a2:Option Addr) (c2:Nat),v=.slice a2 n1 c2∧WsV wx a2 n1 c2 tl∧(∀ b2 o2,a2=some ⟨b2,o2,none⟩→b2=b')∧wx=wc)
              case first =>
                by_cases hc1:c'=1
                · subst hc1
                  obtain rfl:n1=0:=by omega
                  go_wp2
                  go_meet
                  case rel=>exact ⟨_,_,rfl,HR.out.tail1,(fun b' o e=>by cases e;rfl),rfl⟩
                · have hc2:¬ (1:Nat)=c':=by omega
                  have hc3:1<c':=by omega
                  go_wp2
                  go_meet
                  case rel =>
                    have:=HR.out.tail2
                    rw [HN1.out] at this
                    exact ⟨_,_,rfl,this,(fun b' o e=>by cases e;rfl),rfl⟩
              case rest =>
                obtain ⟨a2,c2,rfl,hv2,ha2,rfl⟩:=hcut
                have HV2:=hid hv2;have HA2:=hid ha2
                clear hv2 ha2 hx' hcap'
                go_wp2
                go_loopw [0] (fun v wr=>RfI w b' 10 tl v wr) (fun v _=>slLen v)
                case atStart=>exact ⟨0,[],tl,a2,c2,.slice none 0 0,by rw [HN1.out],rfl,by rw [HN1.out];exact HV2.out,HA2.out,D0.out,D5.out,World.ownsRow_nil _ _ _ _,(fun t ht=>by cases ht),.nil _,List.suffix_refl _,DW.out⟩
                case round =>
                  clear D0 D5 DW HV2 x5
                  obtain ⟨k,L,r,a1,c1,kv,rfl,hLk,hws,hadr,h0,h5,hown,hok,hrp,hsr,hbw⟩:=hrel
                  have OWN:=hid hown;have OK:=hid hok;have HLK:=hid hLk;have HSR:=hid hsr;have HRP:=hid hrp;have HWS:=hid hws;have HAD:=hid hadr
                  have D0:=hid h0;have D5:=hid h5;have DW:=hid hbw
                  have yb:=hbw.size;have yl:=h5.lt
                  obtain ⟨a0,c0,rfl,hk1,hk2,hk3⟩:=own_form hown
                  have HFIN:RowKit.Hid ((a0=none→k=0)∧(∀ g off,a0=some ⟨g,off,none⟩→w.heap.size+2≤g)):=by
                    refine hid ⟨fun e=>?_,fun g off e=>?_⟩
                    · rcases hk3 with ⟨-,h,-⟩ | ⟨g,h,-⟩
                      · exact h
                      · rw [e] at h;cases h
                    · rcases hk3 with ⟨h,-⟩ | ⟨g',h,h',-⟩
                      · rw [h] at e;cases e
                      · rw [h] at e;cases e;exact h'
                  have hkl:=hrp.len
                  rw [List.length_map,hLk,HN1.out] at hkl
                  have z3:wr.cell? ⟨w.heap.size+1,3,none⟩=some (.slice a0 k c0):=h5.cell 3
                  clear hLk hws hadr h0 h5 hown hok hrp hsr hbw hk3
                  obtain ⟨m1,hm1⟩:∃ m,r.length=m:=⟨_,rfl⟩
                  rw [hm1] at HWS hkl ⊢
                  have HM1:=hid hm1
                  clear hm1
                  cases r with
                  | nil =>
                    obtain rfl:m1=0:=by have:=HM1.out;simpa using this.symm
                    go_wp2_with (refine wpList_store_row rfl 24 (.tmp 2) (.tmp 99) rfl w.heap.size #[.int .i64 0,.int .i64 0,.int .i64 0,.slice none 0 0] rfl rfl _ _ D0.out tmInfo rfl (tm_one _ _ _ _ _ _) ?_)
                    have B9:=setRow_heap wr w.heap.size _ #[.int .i64 0,.int .i64 0,.int .i64 0,.slice none 0 0] _ _ D0.out
                    refine bodyPost_ret (v:=.tuple #[.agg #[.int .i64 0,.int .i64 0,.int .i64 0,.slice none 0 0],.slice none 0 0,.bool false]) (by simp [results,Tryz.results83,go_sem,Blk.cell B9]) rfl ?_
                    exact ⟨.mk 0 0 0 none 0 0 [],none,0,0,false,rfl,(fun h=>by cases h),(fun _ t r k=>by obtain ⟨ws1,ks,e,hl,_⟩:=(rdi_list ho (by decide)).1 k;cases e;obtain ⟨ks',-,hl'⟩:=HRP.out.back hl;cases hl' with | cons _ _ _ _ _ h1 _=>exact Rd.no_nil h1),below_setRow DW.out (Nat.le_refl _) _⟩
                  | cons s2 rt =>
                    obtain ⟨b1,o1,rfl,hm1,hx1⟩:=HWS.out.first
                    obtain ⟨m2,hm2⟩:∃ m,rt.length=m:=⟨_,rfl⟩
                    have HM2:=hid hm2
                    rw [hm2] at hm1
                    subst hm1
                    clear hm2
                    have hcap1:=HWS.out.cap
                    have HB1:=hid (HAD.out _ _ rfl)
                    have hlb1:b1<w.heap.size:=by have:=HB1.out;omega
                    have igt:(0:Int)<(m2:Int)+1:=by omega
                    by_cases hcl:s2=wClose
                    · subst hcl
                      have hx2:wr.cell? ⟨b1,o1,none⟩=some (.string ⟨#[41]⟩):=hx1
                      clear hx1
                      by_cases hq1:c1=1
                      · subst hq1
                        obtain rfl:m2=0:=by omega
                        have zr0:wr.cell? ⟨w.heap.size,0,none⟩=some (.int .i64 0):=D0.out.cell 0
                        have zr1:wr.cell? ⟨w.heap.size,1,none⟩=some (.int .i64 0):=D0.out.cell 1
                        have zr2:wr.cell? ⟨w.heap.size,2,none⟩=some (.int .i64 0):=D0.out.cell 2
                        have zr3:wr.cell? ⟨w.heap.size,3,none⟩=some (.slice none 0 0):=D0.out.cell 3
                        have fr0:=D0.out.free 0
                        have fr1:=D0.out.free 1
                        have fr2:=D0.out.free 2
                        have fr3:=D0.out.free 3
                        have lr:=D0.out.lt
                        go_upto_region 32 with fail
                        go_region_held3 (fun w'=>w'.cell? ⟨w.heap.size+1,0,none⟩=some (.int .i64 10)∧w'.cell? ⟨w.heap.size+1,1,none⟩=some (.int .i64 0)∧w'.cell? ⟨w.heap.size+1,2,none⟩=some (.int .i64 0)∧w'.cell? ⟨w.heap.size+1,3,none⟩=some (.slice a0 k c0)) (with_reducible first | exact D5.out.c4 | exact D5.out.drew.c4 | exact c4f (by omega) D5.out.c4 | exact c4fd (by omega) D5.out.c4) (first | fail)
                        all_goals
                          go_wp2
                          first
                          | (have B9:Blk ((((wr.setCell ⟨w.heap.size,0,none⟩ (.int .i64 10)).setCell ⟨w.heap.size,1,none⟩ (.int .i64 0)).setCell ⟨w.heap.size,2,none⟩ (.int .i64 0)).setCell ⟨w.heap.size,3,none⟩ (.slice a0 k c0)) w.heap.size 24 #[.int .i64 10,.int .i64 0,.int .i64 0,.slice a0 k c0]:=Blk.put4f (v0:=.int .i64 10) (v1:=.int .i64 0) (v2:=.int .i64 0) (v3:=.slice a0 k c0) D0.out rfl
                             refine bodyPost_ret (v:=.tuple #[.agg #[.int .i64 10,.int .i64 0,.int .i64 0,.slice a0 k c0],.slice (some ⟨b1,o1,none⟩) 0 0,.bool true]) (by simp [results,Tryz.results83,go_sem,Blk.cell B9]) rfl ?_
                             have KR:Kept (fun k=>k=w.heap.size) wr ((((wr.setCell ⟨w.heap.size,0,none⟩ (.int .i64 10)).setCell ⟨w.heap.size,1,none⟩ (.int .i64 0)).setCell ⟨w.heap.size,2,none⟩ (.int .i64 0)).setCell ⟨w.heap.size,3,none⟩ (.slice a0 k c0)):=((((Kept.refl (fun k=>k=w.heap.size) wr).set rfl).set rfl).set rfl).set rfl
                             have BR:Below w.heap.size w ((((wr.setCell ⟨w.heap.size,0,none⟩ (.int .i64 10)).setCell ⟨w.heap.size,1,none⟩ (.int .i64 0)).setCell ⟨w.heap.size,2,none⟩ (.int .i64 0)).setCell ⟨w.heap.size,3,none⟩ (.slice a0 k c0)):=bst (bst (bst (bst DW.out _ _ _ (Nat.le_refl _)) _ _ _ (Nat.le_refl _)) _ _ _ (Nat.le_refl _)) _ _ _ (Nat.le_refl _)
                             refine ⟨.mk 10 0 0 a0 k c0 L,_,_,_,true,rfl,fun _=>⟨_,.mk _ _ _ _ _ _ _ (KR.vw (vw_of_own OWN.out) fun g off e=>by have:=HFIN.out.2 g off e;show ¬ _=_;omega) HLK.out hk1 hk2 HFIN.out.1 (fun k hk=>tmOk_kept (OK.out k hk).1 (OK.out k hk).2.1 KR (by omega)),.mk _ _ _ _ _ _ _ (fun g off e=>by have:=HFIN.out.2 g off e;omega) (fun k hk=>(OK.out k hk).2.1.le (by omega)),(HWS.out.tail1).kept KR (fun b3 o3 e=>by cases e;have:=HAD.out _ _ rfl;show ¬ _=_;omega),(rdi_list ho (by decide)).2 ⟨_,_,rfl,?_,by rw [TmM.pl_mk]⟩,(((List.suffix_cons _ _).trans HSR.out).trans (List.suffix_cons _ _)).trans (List.suffix_cons _ _),fun b3 o3 e=>by cases e;have:=HAD.out _ _ rfl;subst this;exact ADR.out _ _ rfl⟩,(fun h=>by cases h),BR⟩
                             have:=HRP.out.on (rl_close (ws:=rt))
                             rwa [List.append_nil] at this)
                          | (have B9:Blk ((((wr.setCell ⟨w.heap.size,0,none⟩ (.int .i64 10)).setCell ⟨w.heap.size,1,none⟩ (.int .i64 0)).setCell ⟨w.heap.size,2,none⟩ (.int .i64 0)).setCell ⟨w.heap.size,3,none⟩ (.slice a0 k c0)).drew w.heap.size 24 #[.int .i64 10,.int .i64 0,.int .i64 0,.slice a0 k c0]:=Blk.put4f (v0:=.int .i64 10) (v1:=.int .i64 0) (v2:=.int .i64 0) (v3:=.slice a0 k c0) D0.out rfl
                             refine bodyPost_ret (v:=.tuple #[.agg #[.int .i64 10,.int .i64 0,.int .i64 0,.slice a0 k c0],.slice (some ⟨b1,o1,none⟩) 0 0,.bool true]) (by simp [results,Tryz.results83,go_sem,Blk.cell B9]) rfl ?_
                             have KR:Kept (fun k=>k=w.heap.size) wr ((((wr.setCell ⟨w.heap.size,0,none⟩ (.int .i64 10)).setCell ⟨w.heap.size,1,none⟩ (.int .i64 0)).setCell ⟨w.heap.size,2,none⟩ (.int .i64 0)).setCell ⟨w.heap.size,3,none⟩ (.slice a0 k c0)).drew:=Kept.behind (((((Kept.refl (fun k=>k=w.heap.size) wr).set rfl).set rfl).set rfl).set rfl) (bdr (Below.refl _ _))
                             have BR:Below w.heap.size w ((((wr.setCell ⟨w.heap.size,0,none⟩ (.int .i64 10)).setCell ⟨w.heap.size,1,none⟩ (.int .i64 0)).setCell ⟨w.heap.size,2,none⟩ (.int .i64 0)).setCell ⟨w.heap.size,3,none⟩ (.slice a0 k c0)).drew:=bdr (bst (bst (bst (bst DW.out _ _ _ (Nat.le_refl _)) _ _ _ (Nat.le_refl _)) _ _ _ (Nat.le_refl _)) _ _ _ (Nat.le_refl _))
                             refine ⟨.mk 10 0 0 a0 k c0 L,_,_,_,true,rfl,fun _=>⟨_,.mk _ _ _ _ _ _ _ (KR.vw (vw_of_own OWN.out) fun g off e=>by have:=HFIN.out.2 g off e;show ¬ _=_;omega) HLK.out hk1 hk2 HFIN.out.1 (fun k hk=>tmOk_kept (OK.out k hk).1 (OK.out k hk).2.1 KR (by omega)),.mk _ _ _ _ _ _ _ (fun g off e=>by have:=HFIN.out.2 g off e;omega) (fun k hk=>(OK.out k hk).2.1.le (by omega)),(HWS.out.tail1).kept KR (fun b3 o3 e=>by cases e;have:=HAD.out _ _ rfl;show ¬ _=_;omega),(rdi_list ho (by decide)).2 ⟨_,_,rfl,?_,by rw [TmM.pl_mk]⟩,(((List.suffix_cons _ _).trans HSR.out).trans (List.suffix_cons _ _)).trans (List.suffix_cons _ _),fun b3 o3 e=>by cases e;have:=HAD.out _ _ rfl;subst this;exact ADR.out _ _ rfl⟩,(fun h=>by cases h),BR⟩
                             have:=HRP.out.on (rl_close (ws:=rt))
                             rwa [List.append_nil] at this)
                      · have hq2:¬ (1:Nat)=c1:=by omega
                        have hq3:1<c1:=by omega
                        have j1:(m2:Int)+1≤(c1:Int):=by omega
                        have j2:(1:Int)≤(c1:Int):=by omega
                        have j3:(1:Int)≤(m2:Int)+1:=by omega
                        have zr0:wr.cell? ⟨w.heap.size,0,none⟩=some (.int .i64 0):=D0.out.cell 0
                        have zr1:wr.cell? ⟨w.heap.size,1,none⟩=some (.int .i64 0):=D0.out.cell 1
                        have zr2:wr.cell? ⟨w.heap.size,2,none⟩=some (.int .i64 0):=D0.out.cell 2
                        have zr3:wr.cell? ⟨w.heap.size,3,none⟩=some (.slice none 0 0):=D0.out.cell 3
                        have fr0:=D0.out.free 0
                        have fr1:=D0.out.free 1
                        have fr2:=D0.out.free 2
                        have fr3:=D0.out.free 3
                        have lr:=D0.out.lt
                        go_upto_region 32 with fail
                        go_region_held3 (fun w'=>w'.cell? ⟨w.heap.size+1,0,none⟩=some (.int .i64 10)∧w'.cell? ⟨w.heap.size+1,1,none⟩=some (.int .i64 0)∧w'.cell? ⟨w.heap.size+1,2,none⟩=some (.int .i64 0)∧w'.cell? ⟨w.heap.size+1,3,none⟩=some (.slice a0 k c0)) (with_reducible first | exact D5.out.c4 | exact D5.out.drew.c4 | exact c4f (by omega) D5.out.c4 | exact c4fd (by omega) D5.out.c4) (first | fail)
                        all_goals
                          go_wp2
                          first
                          | (have B9:Blk ((((wr.setCell ⟨w.heap.size,0,none⟩ (.int .i64 10)).setCell ⟨w.heap.size,1,none⟩ (.int .i64 0)).setCell ⟨w.heap.size,2,none⟩ (.int .i64 0)).setCell ⟨w.heap.size,3,none⟩ (.slice a0 k c0)) w.heap.size 24 #[.int .i64 10,.int .i64 0,.int .i64 0,.slice a0 k c0]:=Blk.put4f (v0:=.int .i64 10) (v1:=.int .i64 0) (v2:=.int .i64 0) (v3:=.slice a0 k c0) D0.out rfl
                             refine bodyPost_ret (v:=.tuple #[.agg #[.int .i64 10,.int .i64 0,.int .i64 0,.slice a0 k c0],.slice (some ⟨b1,o1+1,none⟩) m2 (c1 - 1),.bool true]) (by simp [results,Tryz.results83,go_sem,Blk.cell B9]) rfl ?_
                             have KR:Kept (fun k=>k=w.heap.size) wr ((((wr.setCell ⟨w.heap.size,0,none⟩ (.int .i64 10)).setCell ⟨w.heap.size,1,none⟩ (.int .i64 0)).setCell ⟨w.heap.size,2,none⟩ (.int .i64 0)).setCell ⟨w.heap.size,3,none⟩ (.slice a0 k c0)):=((((Kept.refl (fun k=>k=w.heap.size) wr).set rfl).set rfl).set rfl).set rfl
                             have BR:Below w.heap.size w ((((wr.setCell ⟨w.heap.size,0,none⟩ (.int .i64 10)).setCell ⟨w.heap.size,1,none⟩ (.int .i64 0)).setCell ⟨w.heap.size,2,none⟩ (.int .i64 0)).setCell ⟨w.heap.size,3,none⟩ (.slice a0 k c0)):=bst (bst (bst (bst DW.out _ _ _ (Nat.le_refl _)) _ _ _ (Nat.le_refl _)) _ _ _ (Nat.le_refl _)) _ _ _ (Nat.le_refl _)
                             refine ⟨.mk 10 0 0 a0 k c0 L,_,_,_,true,rfl,fun _=>⟨_,.mk _ _ _ _ _ _ _ (KR.vw (vw_of_own OWN.out) fun g off e=>by have:=HFIN.out.2 g off e;show ¬ _=_;omega) HLK.out hk1 hk2 HFIN.out.1 (fun k hk=>tmOk_kept (OK.out k hk).1 (OK.out k hk).2.1 KR (by omega)),.mk _ _ _ _ _ _ _ (fun g off e=>by have:=HFIN.out.2 g off e;omega) (fun k hk=>(OK.out k hk).2.1.le (by omega)),(HWS.out.tail2').kept KR (fun b3 o3 e=>by cases e;have:=HAD.out _ _ rfl;show ¬ _=_;omega),(rdi_list ho (by decide)).2 ⟨_,_,rfl,?_,by rw [TmM.pl_mk]⟩,(((List.suffix_cons _ _).trans HSR.out).trans (List.suffix_cons _ _)).trans (List.suffix_cons _ _),fun b3 o3 e=>by cases e;have:=HAD.out _ _ rfl;subst this;exact ADR.out _ _ rfl⟩,(fun h=>by cases h),BR⟩
                             have:=HRP.out.on (rl_close (ws:=rt))
                             rwa [List.append_nil] at this)
                          | (have B9:Blk ((((wr.setCell ⟨w.heap.size,0,none⟩ (.int .i64 10)).setCell ⟨w.heap.size,1,none⟩ (.int .i64 0)).setCell ⟨w.heap.size,2,none⟩ (.int .i64 0)).setCell ⟨w.heap.size,3,none⟩ (.slice a0 k c0)).drew w.heap.size 24 #[.int .i64 10,.int .i64 0,.int .i64 0,.slice a0 k c0]:=Blk.put4f (v0:=.int .i64 10) (v1:=.int .i64 0) (v2:=.int .i64 0) (v3:=.slice a0 k c0) D0.out rfl
                             refine bodyPost_ret (v:=.tuple #[.agg #[.int .i64 10,.int .i64 0,.int .i64 0,.slice a0 k c0],.slice (some ⟨b1,o1+1,none⟩) m2 (c1 - 1),.bool true]) (by simp [results,Tryz.results83,go_sem,Blk.cell B9]) rfl ?_
                             have KR:Kept (fun k=>k=w.heap.size) wr ((((wr.setCell ⟨w.heap.size,0,none⟩ (.int .i64 10)).setCell ⟨w.heap.size,1,none⟩ (.int .i64 0)).setCell ⟨w.heap.size,2,none⟩ (.int .i64 0)).setCell ⟨w.heap.size,3,none⟩ (.slice a0 k c0)).drew:=Kept.behind (((((Kept.refl (fun k=>k=w.heap.size) wr).set rfl).set rfl).set rfl).set rfl) (bdr (Below.refl _ _))
                             have BR:Below w.heap.size w ((((wr.setCell ⟨w.heap.size,0,none⟩ (.int .i64 10)).setCell ⟨w.heap.size,1,none⟩ (.int .i64 0)).setCell ⟨w.heap.size,2,none⟩ (.int .i64 0)).setCell ⟨w.heap.size,3,none⟩ (.slice a0 k c0)).drew:=bdr (bst (bst (bst (bst DW.out _ _ _ (Nat.le_refl _)) _ _ _ (Nat.le_refl _)) _ _ _ (Nat.le_refl _)) _ _ _ (Nat.le_refl _))
                             refine ⟨.mk 10 0 0 a0 k c0 L,_,_,_,true,rfl,fun _=>⟨_,.mk _ _ _ _ _ _ _ (KR.vw (vw_of_own OWN.out) fun g off e=>by have:=HFIN.out.2 g off e;show ¬ _=_;omega) HLK.out hk1 hk2 HFIN.out.1 (fun k hk=>tmOk_kept (OK.out k hk).1 (OK.out k hk).2.1 KR (by omega)),.mk _ _ _ _ _ _ _ (fun g off e=>by have:=HFIN.out.2 g off e;omega) (fun k hk=>(OK.out k hk).2.1.le (by omega)),(HWS.out.tail2').kept KR (fun b3 o3 e=>by cases e;have:=HAD.out _ _ rfl;show ¬ _=_;omega),(rdi_list ho (by decide)).2 ⟨_,_,rfl,?_,by rw [TmM.pl_mk]⟩,(((List.suffix_cons _ _).trans HSR.out).trans (List.suffix_cons _ _)).trans (List.suffix_cons _ _),fun b3 o3 e=>by cases e;have:=HAD.out _ _ rfl;subst this;exact ADR.out _ _ rfl⟩,(fun h=>by cases h),BR⟩
                             have:=HRP.out.on (rl_close (ws:=rt))
                             rwa [List.append_nil] at this)
                    · have hcl':=first_close hcl
                      have HNC:RowKit.Hid (∀ l:List ByteArray,s2 :: rt ≠ wClose :: l):=hid fun l e=>by cases e;exact hcl rfl
                      have HT:=hid (IH.out (s2 :: rt) (by rw [HM1.out];omega) (by rw [HM1.out];omega) wr (some ⟨b1,o1,none⟩) (m2+1) c1 HWS.out)
                      clear hcl
                      go_upto_region 27 with (first
                        | (go_at_call 83;(with_reducible refine HT.out.mono ?_);rintro e w2 ⟨⟨op',num',more',a3,n3,c3,kids'⟩,a2,n2,c2,ok,rfl,hyes,hno,hb⟩;have HY:=hid hyes;have HNN:=hid hno;have E1:RowKit.Hid (Below wr.heap.size wr w2):=hb;have y2:=hb.size;have E0:=hid (D0.out.below hb);have E5:=hid (D5.out.below hb);have EW:=hid (btr DW.out hb);have OW2:=hid (own_keep OWN.out hb);dsimp only [encTm];clear hyes hno hb)
                        | (refine st_new rfl 24 (.tmp 11) (.tmp 83) rfl #[.int .i64 op',.int .i64 num',.int .i64 more',.slice a3 n3 c3] _ _ rfl rfl tmInfo rfl (tm_one _ _ _ _ _ _) ?_))
                      cases ok
                      ·
                        go_wp2_with (refine wpList_store_row rfl 24 (.tmp 2) (.tmp 88) rfl w.heap.size #[.int .i64 0,.int .i64 0,.int .i64 0,.slice none 0 0] rfl rfl _ _ (E0.out.alloc _) tmInfo rfl (tm_one _ _ _ _ _ _) ?_)
                        have B9:=setRow_heap (w2.alloc (.cells #[.int .i64 op',.int .i64 num',.int .i64 more',.slice a3 n3 c3] 24)) w.heap.size _ #[.int .i64 0,.int .i64 0,.int .i64 0,.slice none 0 0] _ _ (E0.out.alloc _)
                        refine bodyPost_ret (v:=.tuple #[.agg #[.int .i64 0,.int .i64 0,.int .i64 0,.slice none 0 0],.slice none 0 0,.bool false]) (by simp [results,Tryz.results83,go_sem,Blk.cell B9]) rfl ?_
                        exact ⟨.mk 0 0 0 none 0 0 [],none,0,0,false,rfl,(fun h=>by cases h),(fun _ t r k=>by obtain ⟨ws1,ks,e,hl,_⟩:=(rdi_list ho (by decide)).1 k;cases e;obtain ⟨ks',-,hl'⟩:=HRP.out.back hl;exact rl_none (HNN.out (by first | exact rfl | trivial)) HNC.out hl'),below_setRow (bal EW.out _) (Nat.le_refl _) _⟩
                      ·
                        obtain ⟨r2,q1,q2,q3,q4,q5,q6⟩:=HY.out (by first | exact rfl | trivial)
                        obtain rfl:=q3.len
                        have Q1:=hid q1;have Q2:=hid q2;have Q3:=hid q3;have Q4:=hid q4;have Q5:=hid q5;have Q6:=hid q6
                        have OWA:=hid (own_keep OW2.out (show Below w2.heap.size w2 ((w2.alloc (.cells #[.int .i64 op',.int .i64 num',.int .i64 more',.slice a3 n3 c3] 24)).alloc (.cells #[.int .i64 op',.int .i64 num',.int .i64 more',.slice a3 n3 c3] 24)) from Bw.out))
                        have F0:=hid (E0.out.alloc (.cells #[.int .i64 op',.int .i64 num',.int .i64 more',.slice a3 n3 c3] 24));have F5:=hid (E5.out.alloc (.cells #[.int .i64 op',.int .i64 num',.int .i64 more',.slice a3 n3 c3] 24))
                        have F0':=hid (F0.out.alloc (.cells #[.int .i64 op',.int .i64 num',.int .i64 more',.slice a3 n3 c3] 24));have F5':=hid (F5.out.alloc (.cells #[.int .i64 op',.int .i64 num',.int .i64 more',.slice a3 n3 c3] 24))
                        have z5:w2.cell? ⟨w.heap.size+1,3,none⟩=some (.slice a0 k c0):=E5.out.cell 3
                        have zl:=E5.out.lt
                        have hge:=own_ge OWN.out
                        have HGE:=hid hge
                        clear q1 q2 q3 q4 q5 q6 hge
                        go_wp2_with (first
                          | (refine wpList_load_row rfl 24 (.tmp 11) rfl w2.heap.size rfl _ #[.int .i64 op',.int .i64 num',.int .i64 more',.slice a3 n3 c3] _ _ (Blk.new w2 _ _) Tryz.underlying24 rfl tmInfo ?_)
                          | (refine bs_one elTm (by decide) rfl (.tmp 91) rfl #[.int .i64 op',.int .i64 num',.int .i64 more',.slice a3 n3 c3] rfl rfl ?_)
                          | (at_builtin;refine app_list elTm rfl _ _ rfl (w.heap.size+2) _ k (cellsOf encTm L) rfl OWA.out _ 1 _ (encTm (.mk op' num' more' a3 n3 c3 kids')) rfl (by first | exact vw_blk (Blk.fresh (by simp)) | exact vw_blk (Blk.fresh (by simp)).drew) (by simp) rfl (by intro u hu;simp [encTm] at hu;rcases hu with rfl | rfl | rfl | rfl <;> rfl) (by omega) (by simp;omega) ?_;intro v2 w4 hown2 hg2 hv2;obtain ⟨a9,c9,rfl,-,-,-⟩:=own_form hown2;have HG2:=hid hg2;have HO2:=hid hown2;have HV2:=hid hv2;have G0:=hid (blk_grown F0'.out hg2 (fun g hg e=>by have:=HGE.out g hg;omega));have G5:=hid (blk_grown F5'.out hg2 (fun g hg e=>by have:=HGE.out g hg;omega));have z6:w4.cell? ⟨w.heap.size+1,3,none⟩=some (.slice a0 k c0):=G5.out.cell 3;have f6:=G5.out.free 3;have l6:=G5.out.lt;clear hown2 hg2 hv2))
                        go_roundw
                        case rel =>
                          have BA:Below w2.heap.size w2 ((w2.alloc (.cells #[.int .i64 op',.int .i64 num',.int .i64 more',.slice a3 n3 c3] 24)).alloc (.cells #[.int .i64 op',.int .i64 num',.int .i64 more',.slice a3 n3 c3] 24)):=Bw.out
                          have SK:Kept (fun k=>k=w.heap.size+1) w4 (w4.setCell ⟨w.heap.size+1,3,none⟩ (.slice a9 (k+1) c9)):=(Kept.refl _ _).set rfl
                          refine ⟨k+1,L++[(.mk op' num' more' a3 n3 c3 kids')],r2,a2,c2,.slice a9 (k+1) c9,rfl,by rw [List.length_append,HLK.out];rfl,?_,?_,SK.blk G0.out (by show ¬ _=_;omega),G5.out.put1 rfl,?_,?_,?_,Q5.out.trans HSR.out,?_⟩
                          · exact ((Q3.out.below BA).grown HG2.out fun g hg b3 o3 e=>by
                              obtain ⟨o4,e4⟩:=Q6.out _ _ e
                              cases e4
                              have:=HGE.out g hg;omega).kept SK fun b3 o3 e=>by
                              obtain ⟨o4,e4⟩:=Q6.out _ _ e
                              cases e4
                              show ¬ _=_;omega
                          · intro b3 o3 e
                            obtain ⟨o4,e4⟩:=Q6.out _ _ e
                            cases e4
                            exact HB1.out
                          · rw [cellsOf_append]
                            refine SK.own ?_ fun g hg=>?_
                            · simpa [cellsOf] using HO2.out
                            · have:=own_ge HO2.out g hg
                              show ¬ _=_;omega
                          · intro t ht
                            have key:TmOk ((w2.alloc (.cells #[.int .i64 op',.int .i64 num',.int .i64 more',.slice a3 n3 c3] 24)).alloc (.cells #[.int .i64 op',.int .i64 num',.int .i64 more',.slice a3 n3 c3] 24)) t∧TmFr (w.heap.size+2) t∧∀ g,(Value.slice a0 k c0).ownBlock=some g→TmOk (hole g ((w2.alloc (.cells #[.int .i64 op',.int .i64 num',.int .i64 more',.slice a3 n3 c3] 24)).alloc (.cells #[.int .i64 op',.int .i64 num',.int .i64 more',.slice a3 n3 c3] 24))) t:=by
                              rcases List.mem_append.1 ht with ht | ht
                              · obtain ⟨q1,q2,q3⟩:=OK.out t ht
                                exact ⟨(q1.beh E1.out).beh BA,q2,fun g hg=>((q3 g hg).beh (hole_below E1.out (OWN.out.lt g hg).2)).beh (hole_below BA (Nat.lt_of_lt_of_le (OWN.out.lt g hg).2 y2))⟩
                              · rw [List.mem_singleton.1 ht]
                                exact ⟨Q1.out.beh BA,Q2.out.le (by omega),fun g hg=>(Q1.out.holedF Q2.out (OWN.out.lt g hg).2).beh (hole_below BA (Nat.lt_of_lt_of_le (OWN.out.lt g hg).2 y2))⟩
                            obtain ⟨k1,k2,k3⟩:=key
                            have:=tm_app k1 k3 HG2.out HV2.out
                            exact ⟨tmOk_kept this.1 k2 SK (by omega),k2,fun g hg=>tmOk_keptH (this.2 g hg) k2 SK (by omega)⟩
                          · rw [List.map_append]
                            exact .snoc _ _ _ _ _ HRP.out Q4.out
                          · exact bst (below_gr (btr EW.out BA) HG2.out (fun g hg=>by have:=HGE.out g hg;omega)) _ _ _ (Nat.le_succ _)
                        case measure =>
                          have:=Q4.out.less
                          rw [HM1.out] at this
                          simp [slLen];omega
            · have hcl':=first_open hop1
              have HNO:RowKit.Hid (∀ t r,¬ Rd (s :: s1 :: tl) t r):=hid fun t r k=>by
                obtain ⟨ws1,ks,e,_⟩:=(rdi_list ho (by decide)).1 k
                cases e;exact hop1 rfl
              clear hop1
              go_wp2_with (refine wpList_store_row rfl 24 (.tmp 2) (.tmp 68) rfl w.heap.size #[.int .i64 0,.int .i64 0,.int .i64 0,.slice none 0 0] rfl rfl _ _ D0.out tmInfo rfl (tm_one _ _ _ _ _ _) ?_)
              have B9:=setRow_heap wc w.heap.size _ #[.int .i64 0,.int .i64 0,.int .i64 0,.slice none 0 0] _ _ D0.out
              refine bodyPost_ret (v:=.tuple #[.agg #[.int .i64 0,.int .i64 0,.int .i64 0,.slice none 0 0],.slice none 0 0,.bool false]) (by simp [results,Tryz.results83,go_sem,Blk.cell B9]) rfl ?_
              exact ⟨.mk 0 0 0 none 0 0 [],none,0,0,false,rfl,(fun h=>by cases h),(fun _=>HNO.out),below_setRow DW.out (Nat.le_refl _) _⟩
end Go.Proofs.YtancajcelmhnkaaGreatDoor
