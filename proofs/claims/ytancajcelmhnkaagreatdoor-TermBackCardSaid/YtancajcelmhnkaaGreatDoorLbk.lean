/- The law TermBack,walked. -/
import Derived.Test.YtancajcelmhnkaaGreatDoorLev
import Derived.Test.YtancajcelmhnkaaGreatDoorHd
import Derived.Test.YtancajcelmhnkaaGreatDoorKterm
import Derived.Test.YtancajcelmhnkaaGreatDoorAwk
import Derived.Shelf.Unicode.PredsPay
namespace Go.Proofs.YtancajcelmhnkaaGreatDoor
open Go.RowKit Go.Sort Go.Shelf
set_option linter.unusedVariables false
set_option linter.unusedSimpArgs false
set_option maxRecDepth 100000 in
set_option maxHeartbeats 16000000 in
theorem backs_any (A : Option Addr) (len cap : Nat) (zs : List Int) (w : World) (hr : IsRow .i64 w A len cap zs) (htab : Lib.TabIs Tryz.prog w "strings.asciiSpace" .u8 Lib.asciiSpaceTab) :
    Calls Tryz.prog 7 #[.slice A len cap] w fun e w'=>e = .returned (.bool true)∧Below w.heap.size w w':=by
  have HN:=Lib.hid (new_any A len cap zs w hr)
  have HTB:=Lib.hid fun W' (hW' : Below w.heap.size w W')=>TabIs_below (g:=0) (by kernel_rfl) htab hW'
  clear hr htab
  have HT : RowKit.Hid (∀ X : World,Tape X w.heap.size→Calls Tryz.prog 18 #[.pointer (some ⟨w.heap.size,0,none⟩),.int .i64 3] X (KTP w.heap.size 3 X)):=fun X hX=>kterm_any 3 w.heap.size X hX (by decide)
  go_enter Tryz.func7,Tryz.ntmps7
  go_upto_region 5 with (first
    | (go_at_call 11;refine HN.out.mono ?_;rintro e w1 ⟨rfl,hb1,ht1⟩;have B1:=Lib.hid hb1;have T1:=Lib.hid ht1;have y1:=ht1.lt;clear hb1 ht1)
    | (go_at_call 23;refine (kworld_any w.heap.size w1 T1.out).mono ?_;rintro e w2 ⟨⟨ra,rn,rcc,rl⟩,crop,⟨ca,cn,cc,cl⟩,⟨ha,hn,hc,hl⟩,⟨za,zn,zc,zl⟩,year,rfl,hk2,hs2⟩;have K2:=Lib.hid hk2;have S2:=Lib.hid hs2;have y2:=hs2.size;clear hk2 hs2)
    | (refine st_new rfl 42 (.tmp 4) (.tmp 27) rfl #[.int .i64 0,.slice ra rn rcc,.int .i64 crop,.int .i64 0] _ _ rfl rfl lineInfo rfl (line_one _ _ _ _ _ _) ?_;obtain ⟨W2,hW2⟩ : ∃ W2,w2.alloc (.cells #[.int .i64 0,.slice ra rn rcc,.int .i64 crop,.int .i64 0] 42) = W2:=⟨_,rfl⟩;have BL2 : RowKit.Hid (Blk W2 w2.heap.size 42 #[.int .i64 0,.slice ra rn rcc,.int .i64 crop,.int .i64 0]):=(by show Blk _ _ _ _;rw [← hW2];exact Blk.new _ _ _);have S3 : RowKit.Hid (Steps1 w.heap.size w2 W2):=(by show Steps1 _ _ _;rw [← hW2];exact sal (Steps1.refl S2.out.now) _);have y3:=BL2.out.lt;rw [hW2];clear hW2)
    | (go_at_call 18;refine (HT.out W2 S3.out.now).mono ?_;rintro e w3 ⟨⟨po,pm,pq,pa,pn,pc,pk⟩,rfl,ht,hs⟩;have TP3:=Lib.hid ht;have S4:=Lib.hid hs;have y4:=hs.size;have CP:=Lib.hid (ht.chk (by decide));dsimp only [encTm];clear ht hs)
    | (refine st_new rfl 24 (.tmp 9) (.tmp 33) rfl #[.int .i64 po,.int .i64 pm,.int .i64 pq,.slice pa pn pc] _ _ rfl rfl tmInfo rfl (tm_one _ _ _ _ _ _) ?_;obtain ⟨W3,hW3⟩ : ∃ W3,w3.alloc (.cells #[.int .i64 po,.int .i64 pm,.int .i64 pq,.slice pa pn pc] 24) = W3:=⟨_,rfl⟩;have B9 : RowKit.Hid (Blk W3 w3.heap.size 24 #[.int .i64 po,.int .i64 pm,.int .i64 pq,.slice pa pn pc]):=(by show Blk _ _ _ _;rw [← hW3];exact Blk.new _ _ _);have Q3 : RowKit.Hid (Below w3.heap.size w3 W3):=(by show Below _ _ _;rw [← hW3];exact (by (repeat (with_reducible first | exact Below.refl _ _ | refine bdr ?_ | refine bdn ?_ _ | refine bal ?_ _))));have BL3:=Lib.hid ((BL2.out.step S4.out (by omega)).below Q3.out);have K3:=Lib.hid (((K2.out.holed (hole_steps S3.out)).holed (hole_steps S4.out)).holed (hole_below Q3.out (by omega)));have TO3 : RowKit.Hid (TmOk (hole w.heap.size W3) (.mk po pm pq pa pn pc pk)):=((TP3.out.ok.holedF TP3.out.fr (by omega)).beh (hole_below Q3.out (by omega)));have BW3:=Lib.hid (btr (bos (bos (bos B1.out (Nat.le_refl _) S2.out) (Nat.le_refl _) S3.out) (Nat.le_refl _) S4.out) Q3.out);have y5:=B9.out.lt;rw [hW3];clear hW3 TP3 Q3 K2 S2 S3 S4 BL2 HT HN T1 B1)
    | (refine wpList_load_row rfl 24 (.tmp 9) rfl w3.heap.size rfl _ #[.int .i64 po,.int .i64 pm,.int .i64 pq,.slice pa pn pc] _ _ B9.out Tryz.underlying24 rfl tmInfo ?_)
    | (go_at_call 34;refine (print_any (.mk po pm pq pa pn pc pk) W3 TO3.out.fill CP.out).mono ?_;rintro e w5 ⟨rfl,hb⟩;have V5:=Lib.hid hb;clear hb))
  have BW5:=Lib.hid (btr BW3.out V5.out)
  have FW:=Lib.hid (fieldsW_any (TmM.mk po pm pq pa pn pc pk).pl CP.out w5 (HTB.out w5 BW5.out))
  have PW:=Lib.hid fun X (hb : Blk X w5.heap.size 9 (strCells (TmM.mk po pm pq pa pn pc pk).pl.words).toArray)=>parseW_any (TmM.mk po pm pq pa pn pc pk).pl CP.out w5.heap.size X hb
  obtain ⟨ws,hws⟩ : ∃ ws,(TmM.mk po pm pq pa pn pc pk).pl.words = ws:=⟨_,rfl⟩
  rw [hws] at FW PW ⊢
  clear hws HTB
  go_upto_region 6 with (first
    | (go_at_call 36;refine FW.out.mono ?_;rintro e w6 ⟨rfl,h6⟩;have U6 : RowKit.Hid (Blk w6 w5.heap.size 9 (strCells ws).toArray):=(by show Blk _ _ _ _;rw [h6];exact Blk.new _ _ _);have V6 : RowKit.Hid (Below w5.heap.size w5 w6):=(by show Below _ _ _;rw [h6];exact (by (repeat (with_reducible first | exact Below.refl _ _ | refine bdr ?_ | refine bdn ?_ _ | refine bal ?_ _))));clear h6)
    | (go_at_call 35;refine (PW.out w6 U6.out).mono ?_;rintro e w7 ⟨⟨qo,qm,qq,qa,qn,qc,qk⟩,ra7,rc7,rfl,hq,htq,hb⟩;have HQ:=Lib.hid hq;have TQ7:=Lib.hid htq;have V7:=Lib.hid hb;dsimp only [encTm];clear hq htq hb)
    | (refine st_new rfl 24 (.tmp 12) (.tmp 43) rfl #[.int .i64 qo,.int .i64 qm,.int .i64 qq,.slice qa qn qc] _ _ rfl rfl tmInfo rfl (tm_one _ _ _ _ _ _) ?_))
  obtain ⟨X7,hX7⟩ : ∃ X7,w7.alloc (.cells #[.int .i64 qo,.int .i64 qm,.int .i64 qq,.slice qa qn qc] 24) = X7:=⟨_,rfl⟩
  have Q7 : RowKit.Hid (Below w7.heap.size w7 X7):=by show Below _ _ _;rw [← hX7];exact (by (repeat (with_reducible first | exact Below.refl _ _ | refine bdr ?_ | refine bdn ?_ _ | refine bal ?_ _)))
  have B12 : RowKit.Hid (Blk X7 w7.heap.size 24 #[.int .i64 qo,.int .i64 qm,.int .i64 qq,.slice qa qn qc]):=by show Blk _ _ _ _;rw [← hX7];exact Blk.new _ _ _
  have U7:=Lib.hid (btr (btr (btr V5.out V6.out) V7.out) Q7.out)
  have yb3 : w.heap.size < W3.heap.size:=by omega
  have K7:=Lib.hid (K3.out.holed (hole_below U7.out yb3));have TO7:=Lib.hid (TO3.out.beh (hole_below U7.out yb3));have B97:=Lib.hid (B9.out.below U7.out);have BL7:=Lib.hid (BL3.out.below U7.out);have BW7:=Lib.hid (btr BW3.out U7.out)
  have HS:=Lib.hid (same_term (.mk po pm pq pa pn pc pk) (.mk qo qm qq qa qn qc qk) X7 TO7.out.fill (TQ7.out.beh Q7.out) HQ.out.symm : Calls Tryz.prog 37 #[.agg #[.int .i64 po,.int .i64 pm,.int .i64 pq,.slice pa pn pc],.agg #[.int .i64 qo,.int .i64 qm,.int .i64 qq,.slice qa qn qc]] X7 fun e w'=>e = .returned (.bool true)∧Below X7.heap.size X7 w')
  have y7s:=U7.out.size
  rw [hX7]
  clear hX7 Q7 V5 V6 V7 U7 K3 TO3 B9 BL3 BW3 BW5 FW PW TQ7 HQ U6
  have hn5 : hn≤5:=K7.out.hin
  go_upto_block 0 with (first
    | (refine ld_row_w rfl 24 (.tmp 9) rfl w3.heap.size rfl _ #[.int .i64 po,.int .i64 pm,.int .i64 pq,.slice pa pn pc] _ _ B97.out Tryz.underlying24 rfl tmInfo ?_)
    | (refine ld_row_w rfl 24 (.tmp 12) rfl w7.heap.size rfl _ #[.int .i64 qo,.int .i64 qm,.int .i64 qq,.slice qa qn qc] _ _ B12.out Tryz.underlying24 rfl tmInfo ?_)
    | (go_at_call 37;refine HS.out.mono ?_;rintro e w8 ⟨rfl,hb⟩;have V8:=Lib.hid hb;clear hb))
  have yb7 : w.heap.size < X7.heap.size:=by omega
  have K8:=Lib.hid (K7.out.holed (hole_below V8.out yb7));have TO8:=Lib.hid (TO7.out.beh (hole_below V8.out yb7));have B98:=Lib.hid (B97.out.below V8.out);have BL8:=Lib.hid (BL7.out.below V8.out);have BW8:=Lib.hid (btr BW7.out V8.out)
  have y8s:=V8.out.size
  have h9l:=B98.out.lt
  clear V8 K7 TO7 B97 BL7 BW7 B12 HS
  have LB:=Lib.hid (Tm.back_le (chkT_zero CP.out).2)
  have LB0:=Lib.hid (Tm.back_nonneg (TmM.mk po pm pq pa pn pc pk).pl)
  have yk:=K8.out.yok
  obtain ⟨bk,hbk⟩ : ∃ bk,(TmM.mk po pm pq pa pn pc pk).pl.back = bk:=⟨_,rfl⟩
  have HBK:=Lib.hid fun W' (hW' : Below w8.heap.size w8 W')=>(Back_any (.mk po pm pq pa pn pc pk) W' ((TO8.out.beh (hole_below hW' (by omega))).fill) CP.out : Calls Tryz.prog 38 #[.agg #[.int .i64 po,.int .i64 pm,.int .i64 pq,.slice pa pn pc]] W' fun e w'=>e = .returned (.int .i64 (TmM.mk po pm pq pa pn pc pk).pl.back)∧Below W'.heap.size W' w')
  have KBK:=Lib.hid hbk
  rw [hbk] at HBK LB LB0
  have lb:=LB.out;have lb0:=LB0.out
  obtain ⟨lo,hlo⟩ : ∃ lo,year - bk = lo:=⟨_,rfl⟩
  have KLO:=Lib.hid hlo
  have hq : IntKind.i64.wrap (year - bk) = lo:=by rw [IntWalk.i64_in _ (by omega)];exact hlo
  clear hbk hlo LB LB0
  go_cut [15] (fun s wx=>∃ (la : Option Addr) (lc : Nat),s = .slice la (lateM lo hl).length lc∧wx.ownsRow w8.heap.size 47 3 (.slice la (lateM lo hl).length lc) (lateM lo hl).length (cellsOf encRcd (lateM lo hl))∧Below w8.heap.size w8 wx)
  case first =>
    have HN:=Lib.hid K8.out.his.rws.len
    have HRW:=Lib.hid K8.out.his.rws.fill
    go_wp2
    go_loopw [15,65] (fun v i wr=>∃ k : Nat,k≤hn∧i = .int .i64 k∧wr.ownsRow w8.heap.size 47 3 v (lateM lo (hl.take k)).length (cellsOf encRcd (lateM lo (hl.take k)))∧Below w8.heap.size w8 wr) (fun _ i _=>hn - (intOf i).toNat)
    case atStart=>exact ⟨0,Nat.zero_le _,rfl,World.ownsRow_nil _ _ _ _,Below.refl _ _⟩
    case round =>
      obtain ⟨k,hk,rfl,hown,hb⟩:=hrel
      have OWN:=Lib.hid hown;have HB:=Lib.hid hb
      have yb:=hb.size
      obtain ⟨va,vc,rfl,-,-,-⟩:=own_form hown
      have hm5 : (lateM lo (hl.take k)).length≤5:=by have h1:=lateM_len lo (hl.take k);rw [List.length_take] at h1;omega
      clear hown hb
      by_cases hlt : k < hn
      · have hke : k < hl.length:=by have h1:=HN.out;(try dsimp only at h1);omega
        obtain ⟨b,off,rfl,hbl,hrg⟩:=HRW.out.vw.range (k:=3) (fun x _=>encRcd_len x) (by omega) k hke
        have HRG:=Lib.hid (rangeAt_below hrg HB.out)
        have HLS:=Lib.hid (lateM_succ (lo:=lo) hke)
        have B9R:=Lib.hid (B98.out.below HB.out)
        clear hrg
        obtain ⟨r,hr⟩ : ∃ r,hl[k] = r:=⟨_,rfl⟩
        rw [hr] at HRG HLS
        clear hr hke
        obtain ⟨m,hm⟩ : ∃ m,(lateM lo (hl.take k)).length = m:=⟨_,rfl⟩
        have HM:=Lib.hid hm
        rw [hm] at OWN hm5 ⊢
        clear hm
        obtain ⟨ry,rcr,rra,rrn,rrc,rrl⟩:=r
        dsimp only [encRcd] at HRG HLS
        go_upto_region 12 with (first
          | (refine wpList_load_mid rfl 47 (.tmp 67) rfl b (off + k * 3) rfl [.int .i64 ry,.int .i64 rcr,.slice rra rrn rrc] _ HRG.out Tryz.underlying47 rfl rdInfo ?_)
          | (refine st_new rfl 47 (.tmp 17) (.tmp 68) rfl #[.int .i64 ry,.int .i64 rcr,.slice rra rrn rrc] _ _ rfl rfl rdInfo rfl (rd_one _ _ _ _ _) ?_))
        obtain ⟨W1,hW1⟩ : ∃ W1,wr.alloc (.cells #[.int .i64 ry,.int .i64 rcr,.slice rra rrn rrc] 47) = W1:=⟨_,rfl⟩
        have BX : RowKit.Hid (Blk W1 wr.heap.size 47 #[.int .i64 ry,.int .i64 rcr,.slice rra rrn rrc]):=by show Blk _ _ _ _;rw [← hW1];exact Blk.new _ _ _
        have BR1 : RowKit.Hid (Below wr.heap.size wr W1):=by show Below _ _ _;rw [← hW1];exact (by (repeat (with_reducible first | exact Below.refl _ _ | refine bdr ?_ | refine bdn ?_ _ | refine bal ?_ _)))
        have B91:=Lib.hid (B9R.out.below BR1.out)
        have BB1:=Lib.hid (btr HB.out BR1.out)
        have OWN1:=Lib.hid (own_keep OWN.out BR1.out)
        rw [hW1]
        clear hW1 B9R OWN
        have c0 : W1.cell? ⟨wr.heap.size,0,none⟩ = some (.int .i64 ry):=BX.out.cell 0
        have z0 : W1.cell? ⟨w3.heap.size,0,none⟩ = some (.int .i64 po):=B91.out.cell 0
        have z1 : W1.cell? ⟨w3.heap.size,1,none⟩ = some (.int .i64 pm):=B91.out.cell 1
        have z2 : W1.cell? ⟨w3.heap.size,2,none⟩ = some (.int .i64 pq):=B91.out.cell 2
        have z3 : W1.cell? ⟨w3.heap.size,3,none⟩ = some (.slice pa pn pc):=B91.out.cell 3
        dsimp only [Act.put]
        go_cut [75] (fun v wx=>v = .bool (decide (lo≤ry))∧Below W1.heap.size W1 wx)
        case first =>
          go_region_held3 (fun w'=>w'.cell? ⟨wr.heap.size,0,none⟩ = some (.int .i64 ry)∧w'.cell? ⟨w3.heap.size,0,none⟩ = some (.int .i64 po)∧w'.cell? ⟨w3.heap.size,1,none⟩ = some (.int .i64 pm)∧w'.cell? ⟨w3.heap.size,2,none⟩ = some (.int .i64 pq)∧w'.cell? ⟨w3.heap.size,3,none⟩ = some (.slice pa pn pc)) (first | exact ⟨c0,z0,z1,z2,z3⟩ | exact ⟨bc1 QB.out c0,bc1 QB.out z0,bc1 QB.out z1,bc1 QB.out z2,bc1 QB.out z3⟩)
            ((go_at_call 38;refine (HBK.out _ (btr BB1.out (by (repeat (with_reducible first | exact Below.refl _ _ | refine bdr ?_ | refine bdn ?_ _ | refine bal ?_ _))))).mono ?_;rintro e w9 ⟨rfl,hb9⟩;have QB : RowKit.Hid (Below W1.heap.size W1 w9):=btr (by (repeat (with_reducible first | exact Below.refl _ _ | refine bdr ?_ | refine bdn ?_ _ | refine bal ?_ _))) hb9;clear hb9))
          all_goals go_wp2
          all_goals go_meet
          all_goals (case rel=>exact ⟨by first | rfl | rw [hq],QB.out⟩)
        case rest =>
        obtain ⟨rfl,hb9⟩:=hcut
        have BX9:=Lib.hid (BX.out.below hb9)
        have OWN9:=Lib.hid (own_keep OWN1.out hb9)
        have BB9:=Lib.hid (btr BB1.out hb9)
        have y9:=hb9.size
        have y10:=BR1.out.size
        clear hb9 OWN1 BX c0 z0 z1 z2 z3
        by_cases hy : lo≤ry
        · rw [if_pos hy] at HLS
          have hyd:=decide_eq_true hy
          rw [hyd]
          go_wp2_with (first
            | (refine wpList_load_row rfl 47 (.tmp 17) rfl wr.heap.size rfl _ #[.int .i64 ry,.int .i64 rcr,.slice rra rrn rrc] _ _ BX9.out Tryz.underlying47 rfl rdInfo ?_)
            | (refine bs_one elRd (by decide) rfl (.tmp 77) rfl #[.int .i64 ry,.int .i64 rcr,.slice rra rrn rrc] rfl rfl ?_)
            | (at_builtin;refine app_list elRd rfl _ _ rfl w8.heap.size _ m _ rfl (own_keep OWN9.out (by (repeat (with_reducible first | exact Below.refl _ _ | refine bdr ?_ | refine bdn ?_ _ | refine bal ?_ _)))) _ 1 _ (encRcd ⟨ry,rcr,⟨rra,rrn,rrc,rrl⟩⟩) rfl (by first | exact vw_blk (Blk.fresh (by simp)) | exact vw_blk (Blk.fresh (by simp)).drew) (by simp) rfl (oneC_rd _) (by omega) (by have:=BB9.out.size;simp;omega) ?_;intro v3 w4 hown3 hg3 hv3))
          go_roundw
          case rel =>
            refine ⟨k + 1,by omega,by go_num,?_,below_app (own_keep OWN9.out (by (repeat (with_reducible first | exact Below.refl _ _ | refine bdr ?_ | refine bdn ?_ _ | refine bal ?_ _)))) (bal BB9.out _) hg3⟩
            rw [HLS.out,cellsOf_snoc,List.length_append,HM.out]
            exact hown3
          case measure=>simp [intOf];omega
        · rw [if_neg hy,List.append_nil] at HLS
          have hyd:=decide_eq_false hy
          rw [hyd]
          go_wp2
          go_roundw
          case rel =>
            refine ⟨k + 1,by omega,by go_num,?_,BB9.out⟩
            rw [HLS.out,HM.out]
            exact OWN9.out
          case measure=>simp [intOf];omega
      · obtain rfl : k = hn:=by omega
        have e : hl.take k = hl:=List.take_of_length_le (by have h1:=HN.out;(try dsimp only at h1);omega)
        rw [e] at OWN ⊢
        go_wp2
        go_meet
        case rel=>exact ⟨va,vc,rfl,OWN.out,HB.out⟩
  case rest =>
  obtain ⟨la,lc,rfl,hown,hb9⟩:=hcut
  have KM:=Lib.hid (KHs.late (K8.out.his.holed (hole_below hb9 (by omega))) lo hown (by omega))
  have K9:=Lib.hid (K8.out.holed (hole_below hb9 (by omega)));have TO9:=Lib.hid (TO8.out.beh (hole_below hb9 (by omega)));have B99:=Lib.hid (B98.out.below hb9);have BL9:=Lib.hid (BL8.out.below hb9);have BW9:=Lib.hid (btr BW8.out hb9)
  have yb9 : w.heap.size < wc.heap.size:=by have:=hb9.size;omega
  clear hown hb9 K8 TO8 B98 BL8 BW8 HBK
  go_upto_region 17 with (first
    | (refine wpList_load_row rfl 24 (.tmp 9) rfl w3.heap.size rfl _ #[.int .i64 po,.int .i64 pm,.int .i64 pq,.slice pa pn pc] _ _ B99.out Tryz.underlying24 rfl tmInfo ?_)
    | (refine wpList_load_row rfl 42 (.tmp 4) rfl w2.heap.size rfl _ #[.int .i64 0,.slice ra rn rcc,.int .i64 crop,.int .i64 0] _ _ BL9.out Tryz.underlying42 rfl lineInfo ?_)
    | (go_at_call 20;refine (KW.eval (t:=(.mk po pm pq pa pn pc pk)) K9.out TO9.out CP.out (by decide : (0 : Int)≤9) (by decide)).mono ?_;rintro e v4 ⟨⟨y1a,y1n,y1c,y1l⟩,⟨n1a,n1n,n1c,n1l⟩,⟨o1a,o1n,o1c,o1l⟩,rfl,hy,hn',ho,hb,hf⟩;have Y1:=Lib.hid hy;have N1:=Lib.hid hn';have O1:=Lib.hid ho;have V4:=Lib.hid hb;clear hy hn' ho hb hf)
    | (refine st_new rfl 55 (.tmp 18) (.tmp 89) rfl #[.slice y1a y1n y1c,.slice n1a n1n n1c,.slice o1a o1n o1c] _ _ rfl rfl trInfo rfl (sq_one _ _ _ rfl rfl rfl) ?_;obtain ⟨X4,hX4⟩ : ∃ X4,v4.alloc (.cells #[.slice y1a y1n y1c,.slice n1a n1n n1c,.slice o1a o1n o1c] 55) = X4:=⟨_,rfl⟩;have Q4 : RowKit.Hid (Below v4.heap.size v4 X4):=(by show Below _ _ _;rw [← hX4];exact (by (repeat (with_reducible first | exact Below.refl _ _ | refine bdr ?_ | refine bdn ?_ _ | refine bal ?_ _))));have EV1 : RowKit.Hid (EvAt X4 v4.heap.size (kwP ⟨ra,rn,rcc,rl⟩ crop ⟨ca,cn,cc,cl⟩ ⟨ha,hn,hc,hl⟩ ⟨za,zn,zc,zl⟩ year 9).env (TmM.mk po pm pq pa pn pc pk).pl ⟨y1a,y1n,y1c,y1l⟩ ⟨n1a,n1n,n1c,n1l⟩ ⟨o1a,o1n,o1c,o1l⟩):=⟨(by rw [← hX4];exact Blk.new _ _ _),Y1.out.below Q4.out,N1.out.below Q4.out,O1.out.below Q4.out⟩;have U4:=Lib.hid (btr V4.out Q4.out);have K10:=Lib.hid (K9.out.holed (hole_below U4.out yb9));have KM10:=Lib.hid (KM.out.holed (hole_below U4.out yb9));have TO10:=Lib.hid (TO9.out.beh (hole_below U4.out yb9));have B910:=Lib.hid (B99.out.below U4.out);have BL10:=Lib.hid (BL9.out.below U4.out);have BW10:=Lib.hid (btr BW9.out U4.out);have y4s:=U4.out.size;rw [hX4];clear hX4 Q4 V4 Y1 N1 O1 U4 K9 KM TO9 B99 BL9 BW9)
    | (refine wpList_load_row rfl 24 (.tmp 9) rfl w3.heap.size rfl _ #[.int .i64 po,.int .i64 pm,.int .i64 pq,.slice pa pn pc] _ _ B910.out Tryz.underlying24 rfl tmInfo ?_)
    | (refine wpList_load_row rfl 42 (.tmp 4) rfl w2.heap.size rfl _ #[.int .i64 0,.slice ra rn rcc,.int .i64 crop,.int .i64 0] _ _ BL10.out Tryz.underlying42 rfl lineInfo ?_)
    | (go_at_call 20;refine (KW.eval2 (t:=(.mk po pm pq pa pn pc pk)) K10.out KM10.out TO10.out CP.out (by decide : (0 : Int)≤9) (by decide)).mono ?_;rintro e v10 ⟨⟨y2a,y2n,y2c,y2l⟩,⟨n2a,n2n,n2c,n2l⟩,⟨o2a,o2n,o2c,o2l⟩,rfl,hy,hn',ho,hb,hf⟩;have Y2:=Lib.hid hy;have N2:=Lib.hid hn';have O2:=Lib.hid ho;have V10:=Lib.hid hb;clear hy hn' ho hb hf)
    | (refine st_new rfl 55 (.tmp 20) (.tmp 99) rfl #[.slice y2a y2n y2c,.slice n2a n2n n2c,.slice o2a o2n o2c] _ _ rfl rfl trInfo rfl (sq_one _ _ _ rfl rfl rfl) ?_))
  obtain ⟨X10,hX10⟩ : ∃ X10,v10.alloc (.cells #[.slice y2a y2n y2c,.slice n2a n2n n2c,.slice o2a o2n o2c] 55) = X10:=⟨_,rfl⟩
  have Q10 : RowKit.Hid (Below v10.heap.size v10 X10):=by show Below _ _ _;rw [← hX10];exact (by (repeat (with_reducible first | exact Below.refl _ _ | refine bdr ?_ | refine bdn ?_ _ | refine bal ?_ _)))
  have EVB : RowKit.Hid (EvAt X10 v10.heap.size (kwP ⟨ra,rn,rcc,rl⟩ crop ⟨ca,cn,cc,cl⟩ ⟨la,(lateM lo hl).length,lc,lateM lo hl⟩ ⟨za,zn,zc,zl⟩ year 9).env (TmM.mk po pm pq pa pn pc pk).pl ⟨y2a,y2n,y2c,y2l⟩ ⟨n2a,n2n,n2c,n2l⟩ ⟨o2a,o2n,o2c,o2l⟩):=⟨by rw [← hX10];exact Blk.new _ _ _,Y2.out.below Q10.out,N2.out.below Q10.out,O2.out.below Q10.out⟩
  have U10:=Lib.hid (btr V10.out Q10.out)
  have EVA:=Lib.hid (EV1.out.below U10.out)
  have BWX:=Lib.hid (btr BW10.out U10.out)
  rw [hX10]
  clear hX10 Q10 V10 Y2 N2 O2 U10 EV1 K10 KM10 TO10 B910 BL10 BW10
  have LE : Env.Late (kwP ⟨ra,rn,rcc,rl⟩ crop ⟨ca,cn,cc,cl⟩ ⟨ha,hn,hc,hl⟩ ⟨za,zn,zc,zl⟩ year 9).env (kwP ⟨ra,rn,rcc,rl⟩ crop ⟨ca,cn,cc,cl⟩ ⟨la,(lateM lo hl).length,lc,lateM lo hl⟩ ⟨za,zn,zc,zl⟩ year 9).env (TmM.mk po pm pq pa pn pc pk).pl.back:=late_env (by (try dsimp only);rw [KBK.out,KLO.out])
  have ee : (kwP ⟨ra,rn,rcc,rl⟩ crop ⟨ca,cn,cc,cl⟩ ⟨la,(lateM lo hl).length,lc,lateM lo hl⟩ ⟨za,zn,zc,zl⟩ year 9).env.ev (TmM.mk po pm pq pa pn pc pk).pl = (kwP ⟨ra,rn,rcc,rl⟩ crop ⟨ca,cn,cc,cl⟩ ⟨ha,hn,hc,hl⟩ ⟨za,zn,zc,zl⟩ year 9).env.ev (TmM.mk po pm pq pa pn pc pk).pl:=Env.late LE (TmM.mk po pm pq pa pn pc pk).pl (Int.le_refl _)
  have A1:=Lib.hid (truthsYes EVA.out.ys EVA.out.ns EVA.out.os (ee ▸ EVB.out.ys) (ee ▸ EVB.out.ns) (EVB.out.os.congr fun x y=>by rw [ee];exact Iff.rfl))
  have D1:=Lib.hid EVA.out.blk;have D2:=Lib.hid EVB.out.blk
  clear LE ee EVA EVB
  dsimp only at A1
  go_wp2_with (first
    | (refine ld_row_w rfl 55 (.tmp 18) rfl v4.heap.size rfl _ #[.slice y1a y1n y1c,.slice n1a n1n n1c,.slice o1a o1n o1c] _ _ D1.out Tryz.underlying55 rfl trInfo ?_)
    | (refine ld_row_w rfl 55 (.tmp 20) rfl v10.heap.size rfl _ #[.slice y2a y2n y2c,.slice n2a n2n n2c,.slice o2a o2n o2c] _ _ D2.out Tryz.underlying55 rfl trInfo ?_)
    | (go_at_call 22;refine A1.out.mono ?_;rintro e u1 ⟨rfl,hb⟩;have VU:=Lib.hid hb;clear hb)
    | (go_at_call 10;refine (awake_any _).mono ?_;rintro e u2 ⟨rfl,hb⟩;have VV:=Lib.hid (btr VU.out hb);clear hb))
  go_ret
  exact ⟨rfl,btr BWX.out VV.out⟩
end Go.Proofs.YtancajcelmhnkaaGreatDoor
