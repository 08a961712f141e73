/- Back of both sides,at any term. -/
import Derived.Test.YtancajcelmhnkaaGreatDoorHd
import Derived.Test.YtancajcelmhnkaaGreatDoorRchk
import Derived.Test.YtancajcelmhnkaaGreatDoorRg
set_option maxRecDepth 100000
set_option maxHeartbeats 8000000
namespace Go.Proofs.YtancajcelmhnkaaGreatDoor
open Go.RowKit Go.Sort Go.Shelf
set_option linter.unusedVariables false
set_option linter.unusedSimpArgs false
theorem rback_any (t:TmM):∀ (w:World),TmOk w t→t.pl.form=true →
  Calls Tryz.prog 82 #[.agg (encTm t).toArray] w fun e w'=>e=.returned (.int .i64 t.pl.back)∧Below w.heap.size w w':=by
 induction t using TmM.ind with
 | h op num more a n c kids ih =>
  intro w h hf
  rw [TmM.pl_mk] at hf ⊢
  obtain ⟨hfo,hfk⟩:=form_kid hf
  rw [List.length_map] at hfo
  obtain ⟨o1,o2,o3⟩:=own_few hfo
  have hop:=formB_op hfo
  rw [Tm.back]
  show Calls Tryz.prog _ #[.agg #[.int .i64 op,.int .i64 num,.int .i64 more,.slice a n c]] w _
  have H:=hid h;have IH:=hid ih;have HFK:=hid hfk
  have HN:=hid h.len
  have hc:=h.few
  obtain ⟨W,hW⟩:∃ W,w.alloc (.cells #[.int .i64 op,.int .i64 num,.int .i64 more,.slice a n c] 24)=W:=⟨_,rfl⟩
  have B0:RowKit.Hid (Blk W w.heap.size 24 #[.int .i64 op,.int .i64 num,.int .i64 more,.slice a n c]):=by show Blk _ _ _ _;rw [← hW];exact Blk.new w _ _
  have BB:RowKit.Hid (Below w.heap.size w W):=by show Below _ _ _;rw [← hW];exact Bw.out
  have x0:W.cell? ⟨w.heap.size,0,none⟩=some (.int .i64 op):=B0.out.cell 0
  have x1:W.cell? ⟨w.heap.size,1,none⟩=some (.int .i64 num):=B0.out.cell 1
  have x3:W.cell? ⟨w.heap.size,3,none⟩=some (.slice a n c):=B0.out.cell 3
  have y0:=B0.out.lt
  have HOW:RowKit.Hid (ownB op num=if op=6 then num - 1 else if op=7∨op=8 then num else 0):=rfl
  obtain ⟨own,hown⟩:∃ own,ownB op num=own:=⟨_,rfl⟩
  rw [← show ownB op num=(if op=6 then num - 1 else if op=7∨op=8 then num else 0) from rfl]
  have key:∀ v:Value,v=.int .i64 own→v=.int .i64 (ownB op num):=fun v hv=>by rw [hv,hown]
  have HOP:=hid hop
  have HWN:=hid hown
  rw [hown] at o1 o2 ⊢
  clear h ih hf hfo hfk hop key HOW hown
  go_enter Tryz.func82,Tryz.ntmps82
  go_upto_block 0 with fail
  go_cut [3] (fun v wx=>v=.int .i64 own∧wx=W)
  case first =>
   rcases HOP.out with rfl | rfl | rfl | rfl | rfl | rfl | rfl | rfl | ⟨rfl | rfl,_⟩ | ⟨rfl,_⟩
   all_goals (try (have o4:=o3 (by decide)))
   all_goals clear o3
   all_goals go_wp2
   all_goals go_meet
   all_goals (case rel=>exact ⟨by rw [← HWN.out];simp [ownB],by first | rfl | trivial⟩)
  case rest =>
  obtain ⟨rfl,rfl⟩:=hcut
  go_wp2
  go_loopw [3,21] (fun s i wr=>∃ k:Nat,k≤n∧i=.int .i64 k∧s=.int .i64 (max own (Tm.backs ((kids.map TmM.pl).take k)))∧Below wc.heap.size wc wr) (fun _ i _=>n - (intOf i).toNat)
  case atStart=>exact ⟨0,Nat.zero_le _,rfl,by simp [Tm.backs];omega,Below.refl _ _⟩
  case round =>
   obtain ⟨k,hk,rfl,rfl,hb⟩:=hrel
   have HB:=hid hb
   have yb:=hb.size
   clear hb
   by_cases hlt:k<n
   ·have hke:k<kids.length:=by rw [HN.out];exact hlt
    obtain ⟨b,off,rfl,hbl,hrg⟩:=H.out.at_ hke
    have HRG:=hid (rangeAt_below hrg (btr BB.out HB.out))
    have HSZ:RowKit.Hid (Tm.backs ((kids.map TmM.pl).take (k+1))=max (Tm.backs ((kids.map TmM.pl).take k)) kids[k].pl.back):=by
     show _=_
     have hkm:k<(kids.map TmM.pl).length:=by rw [List.length_map];exact hke
     rw [List.take_succ_eq_append_getElem hkm,Tm.backs_snoc _ _ (Tm.back_nonneg _),List.getElem_map]
    have HIH:=hid fun W' (hW':Below wr.heap.size wr W')=>IH.out _ (List.getElem_mem hke) W' ((H.out.kid (List.getElem_mem hke)).beh (btr (btr BB.out HB.out) hW')) (HFK.out _ (List.mem_map.2 ⟨_,List.getElem_mem hke,rfl⟩))
    clear hrg
    obtain ⟨kt,hkt⟩:∃ kt,kids[k]=kt:=⟨_,rfl⟩
    rw [hkt] at HRG HSZ HIH
    clear hkt
    obtain ⟨sz,hsz⟩:∃ sz,max own (Tm.backs ((kids.map TmM.pl).take k))=sz:=⟨_,rfl⟩
    have HSZ2:=hid hsz
    rw [hsz]
    clear hsz
    obtain ⟨ks,hks⟩:∃ ks,kt.pl.back=ks:=⟨_,rfl⟩
    rw [hks] at HSZ HIH
    clear hks
    obtain ⟨op',num',more',a',n',c',kids'⟩:=kt
    dsimp only [encTm] at HRG HIH
    go_wp2_with (first
     | (refine wpList_load_mid rfl 24 (.tmp 23) rfl b (off+k * 4) rfl [.int .i64 op',.int .i64 num',.int .i64 more',.slice a' n' c'] _ HRG.out Tryz.underlying24 rfl tmInfo ?_)
     | (refine st_new rfl 24 (.tmp 5) (.tmp 24) rfl #[.int .i64 op',.int .i64 num',.int .i64 more',.slice a' n' c'] _ _ rfl rfl tmInfo rfl (tm_one _ _ _ _ _ _) ?_)
     | (refine wpList_load_row rfl 24 (.tmp 5) rfl wr.heap.size rfl _ #[.int .i64 op',.int .i64 num',.int .i64 more',.slice a' n' c'] _ _ (Blk.new _ _ _) Tryz.underlying24 rfl tmInfo ?_)
     | (go_at_call 82;refine (HIH.out _ Bw.out).mono ?_;rintro e w2 ⟨rfl,hb2⟩;have Q2:RowKit.Hid (Below wr.heap.size wr w2):=btr Bw.out hb2;clear hb2))
    all_goals go_roundw
    all_goals first
     | (case rel =>
       refine ⟨k+1,by omega,by go_num,?_,btr HB.out Q2.out⟩
       have h1:=HSZ.out;have h2:=HSZ2.out
       congr 1
       omega)
     | (case measure=>simp [intOf];omega)
   ·obtain rfl:k=n:=by omega
    have e:(kids.map TmM.pl).take k=kids.map TmM.pl:=List.take_of_length_le (by rw [List.length_map];have:=HN.out;omega)
    rw [e]
    clear e
    go_wp2
    go_ret
    exact ⟨rfl,btr BB.out HB.out⟩
def backV (t:Tm):Int:=if chkT t=0 then t.back else 0
theorem Back_all (t:TmM) (w:World) (h:TmOk w t):Calls Tryz.prog 38 #[.agg (encTm t).toArray] w fun e w'=>e=.returned (.int .i64 (backV t.pl))∧Below w.heap.size w w':=by
 have HC:=hid fun W' (hW':Below w.heap.size w W')=>check_any t W' (h.beh hW')
 obtain ⟨tb,htb⟩:∃ tb,(encTm t).toArray=tb:=⟨_,rfl⟩
 have TI:RowKit.Hid ((Tryz.prog.info? 24).map (·.size)=some (encTm t).toArray.size):=encTm_info t
 by_cases hk:chkT t.pl=0
 ·have e:backV t.pl=t.pl.back:=if_pos hk
  rw [e]
  have HT:=hid fun W' (hW':Below w.heap.size w W')=>back_any t W' (h.beh hW') (chkT_zero hk).2
  rw [hk] at HC
  rw [htb] at HC HT TI ⊢
  obtain ⟨l,hl⟩:∃ l,t.pl.back=l:=⟨_,rfl⟩
  rw [hl] at HT ⊢
  clear h hk htb hl e
  obtain ⟨W,hW⟩:∃ W,w.alloc (.cells tb 24)=W:=⟨_,rfl⟩
  have B0:RowKit.Hid (Blk W w.heap.size 24 tb):=by show Blk _ _ _ _;rw [← hW];exact Blk.new w _ _
  have BB:RowKit.Hid (Below w.heap.size w W):=by show Below _ _ _;rw [← hW];exact Bw.out
  go_enter Tryz.func38,Tryz.ntmps38
  go_wp2_with (first
   | (refine wpList_load_row rfl 24 (.tmp 1) rfl w.heap.size rfl _ tb _ _ B0.out Tryz.underlying24 rfl TI.out ?_)
   | (go_at_call 40;refine (HC.out _ BB.out).mono ?_;rintro e w1 ⟨rfl,hb1⟩;have B1:=hid (B0.out.below hb1);have BB1:=hid (btr BB.out hb1);clear hb1)
   | (refine wpList_load_row rfl 24 (.tmp 1) rfl w.heap.size rfl _ tb _ _ B1.out Tryz.underlying24 rfl TI.out ?_)
   | (go_at_call 75;refine (HT.out _ BB1.out).mono ?_;rintro e w2 ⟨rfl,hb2⟩;have BB2:=hid (btr BB1.out hb2);clear hb2))
  go_ret
  exact ⟨rfl,BB2.out⟩
 ·have e:backV t.pl=0:=if_neg hk
  rw [e]
  obtain ⟨ck,hck⟩:∃ ck,chkT t.pl=ck:=⟨_,rfl⟩
  rw [hck] at HC hk
  rw [htb] at HC TI ⊢
  have hk1:(ck == 0)=false:=by simpa using hk
  clear h htb hck e
  obtain ⟨W,hW⟩:∃ W,w.alloc (.cells tb 24)=W:=⟨_,rfl⟩
  have B0:RowKit.Hid (Blk W w.heap.size 24 tb):=by show Blk _ _ _ _;rw [← hW];exact Blk.new w _ _
  have BB:RowKit.Hid (Below w.heap.size w W):=by show Below _ _ _;rw [← hW];exact Bw.out
  go_enter Tryz.func38,Tryz.ntmps38
  go_wp2_with (first
   | (refine wpList_load_row rfl 24 (.tmp 1) rfl w.heap.size rfl _ tb _ _ B0.out Tryz.underlying24 rfl TI.out ?_)
   | (go_at_call 40;refine (HC.out _ BB.out).mono ?_;rintro e w1 ⟨rfl,hb1⟩;have B1:=hid (B0.out.below hb1);have BB1:=hid (btr BB.out hb1);clear hb1))
  go_ret
  exact ⟨rfl,BB1.out⟩
theorem rBack_all (t:TmM) (w:World) (h:TmOk w t) (hz:t.pl.size≤2147483647):Calls Tryz.prog 42 #[.agg (encTm t).toArray] w fun e w'=>e=.returned (.int .i64 (backV t.pl))∧Below w.heap.size w w':=by
 have HC:=hid fun W' (hW':Below w.heap.size w W')=>rcheck_any t W' (h.beh hW') hz
 obtain ⟨tb,htb⟩:∃ tb,(encTm t).toArray=tb:=⟨_,rfl⟩
 have TI:RowKit.Hid ((Tryz.prog.info? 24).map (·.size)=some (encTm t).toArray.size):=encTm_info t
 by_cases hk:chkT t.pl=0
 ·have e:backV t.pl=t.pl.back:=if_pos hk
  rw [e]
  have HT:=hid fun W' (hW':Below w.heap.size w W')=>rback_any t W' (h.beh hW') (chkT_zero hk).2
  rw [hk] at HC
  rw [htb] at HC HT TI ⊢
  obtain ⟨l,hl⟩:∃ l,t.pl.back=l:=⟨_,rfl⟩
  rw [hl] at HT ⊢
  clear h hk htb hl e
  obtain ⟨W,hW⟩:∃ W,w.alloc (.cells tb 24)=W:=⟨_,rfl⟩
  have B0:RowKit.Hid (Blk W w.heap.size 24 tb):=by show Blk _ _ _ _;rw [← hW];exact Blk.new w _ _
  have BB:RowKit.Hid (Below w.heap.size w W):=by show Below _ _ _;rw [← hW];exact Bw.out
  go_enter Tryz.func42,Tryz.ntmps42
  go_wp2_with (first
   | (refine wpList_load_row rfl 24 (.tmp 1) rfl w.heap.size rfl _ tb _ _ B0.out Tryz.underlying24 rfl TI.out ?_)
   | (go_at_call 41;refine (HC.out _ BB.out).mono ?_;rintro e w1 ⟨rfl,hb1⟩;have B1:=hid (B0.out.below hb1);have BB1:=hid (btr BB.out hb1);clear hb1)
   | (refine wpList_load_row rfl 24 (.tmp 1) rfl w.heap.size rfl _ tb _ _ B1.out Tryz.underlying24 rfl TI.out ?_)
   | (go_at_call 82;refine (HT.out _ BB1.out).mono ?_;rintro e w2 ⟨rfl,hb2⟩;have BB2:=hid (btr BB1.out hb2);clear hb2))
  go_ret
  exact ⟨rfl,BB2.out⟩
 ·have e:backV t.pl=0:=if_neg hk
  rw [e]
  obtain ⟨ck,hck⟩:∃ ck,chkT t.pl=ck:=⟨_,rfl⟩
  rw [hck] at HC hk
  rw [htb] at HC TI ⊢
  have hk1:(ck == 0)=false:=by simpa using hk
  clear h htb hck e
  obtain ⟨W,hW⟩:∃ W,w.alloc (.cells tb 24)=W:=⟨_,rfl⟩
  have B0:RowKit.Hid (Blk W w.heap.size 24 tb):=by show Blk _ _ _ _;rw [← hW];exact Blk.new w _ _
  have BB:RowKit.Hid (Below w.heap.size w W):=by show Below _ _ _;rw [← hW];exact Bw.out
  go_enter Tryz.func42,Tryz.ntmps42
  go_wp2_with (first
   | (refine wpList_load_row rfl 24 (.tmp 1) rfl w.heap.size rfl _ tb _ _ B0.out Tryz.underlying24 rfl TI.out ?_)
   | (go_at_call 41;refine (HC.out _ BB.out).mono ?_;rintro e w1 ⟨rfl,hb1⟩;have B1:=hid (B0.out.below hb1);have BB1:=hid (btr BB.out hb1);clear hb1))
  go_ret
  exact ⟨rfl,BB1.out⟩
def PaR (ws:List ByteArray) (t:Tm) (rest:List ByteArray) (er:Int):Prop :=
 (Rd ws t rest∧chkT t=0∧er=0)∨(t=.mk 0 0 0 []∧rest=[]∧((∃ t0 r0,Rd ws t0 r0∧chkT t0=er∧er ≠ 0)∨((∀ t0 r0,¬ Rd ws t0 r0)∧er=4)))
theorem PaR.uniq {ws t rest er t' rest' er'} (h:PaR ws t rest er) (k:PaR ws t' rest' er'):t=t'∧rest=rest'∧er=er':=by
 rcases h with ⟨h1,h2,rfl⟩ | ⟨rfl,rfl,⟨t0,r0,h1,h2,h3⟩ | ⟨h1,rfl⟩⟩
 ·rcases k with ⟨k1,k2,rfl⟩ | ⟨rfl,rfl,⟨t1,r1,k1,k2,k3⟩ | ⟨k1,rfl⟩⟩
  ·obtain ⟨rfl,rfl⟩:=h1.uniq k1;exact ⟨rfl,rfl,rfl⟩
  ·obtain ⟨rfl,rfl⟩:=h1.uniq k1;rw [h2] at k2;exact absurd k2.symm k3
  ·exact absurd h1 (k1 _ _)
 ·rcases k with ⟨k1,k2,rfl⟩ | ⟨rfl,rfl,⟨t1,r1,k1,k2,k3⟩ | ⟨k1,rfl⟩⟩
  ·obtain ⟨rfl,rfl⟩:=h1.uniq k1;rw [h2] at k2;exact absurd k2 h3
  ·obtain ⟨rfl,rfl⟩:=h1.uniq k1;exact ⟨rfl,rfl,by rw [← h2,← k2]⟩
  ·exact absurd h1 (k1 _ _)
 ·rcases k with ⟨k1,k2,rfl⟩ | ⟨rfl,rfl,⟨t1,r1,k1,k2,k3⟩ | ⟨k1,rfl⟩⟩
  ·exact absurd k1 (h1 _ _)
  ·exact absurd k1 (h1 _ _)
  ·exact ⟨rfl,rfl,rfl⟩
theorem cell_fr4 {w:World} {g k i:Nat} {v v0 v1 v2 v3:Value} (hne:k ≠ g) (h:w.cell? ⟨k,i,none⟩=some v):((((w.setCell ⟨g,0,none⟩ v0).setCell ⟨g,1,none⟩ v1).setCell ⟨g,2,none⟩ v2).setCell ⟨g,3,none⟩ v3).cell? ⟨k,i,none⟩=some v:=by
 rw [World.cell?_setCell_other _ _ _ _ (by intro e;injection e;omega),World.cell?_setCell_other _ _ _ _ (by intro e;injection e;omega),World.cell?_setCell_other _ _ _ _ (by intro e;injection e;omega),World.cell?_setCell_other _ _ _ _ (by intro e;injection e;omega)]
 exact h
def PaP (w:World) (ws:List ByteArray) (e:Ending) (w':World):Prop :=
 ∃ (tm:TmM) (a:Option Addr) (n c:Nat) (rest:List ByteArray) (er:Int),e=.returned (.tuple #[.agg (encTm tm).toArray,.slice a n c,.int .i64 er])∧PaR ws tm.pl rest er∧TmOk w' tm∧Vw w' a (strCells rest)∧rest.length=n∧n≤c∧c≤maxLen∧Below w.heap.size w w'
theorem cloneV_any (a:Option Addr) (c:Nat) (l:List ByteArray) (w:World) (hv:Vw w a (strCells l)) (hm:l.length≤1000000) (hsp:a=none∨∃ b off:Nat,a=some ⟨b,off,none⟩) :
  Calls Tryz.prog 71 #[.slice a l.length c] w fun e w'=>∃ (a':Option Addr) (c':Nat),e=.returned (.slice a' l.length c')∧Vw w' a' (strCells l)∧l.length≤c'∧c'≤maxLen∧(∀ b off,a'=some ⟨b,off,none⟩→w.heap.size≤b)∧Below w.heap.size w w':=by
 rcases hsp with rfl | ⟨b,off,rfl⟩
 ·have hl:l=[]:=by
   cases l with
   | nil=>rfl
   | cons s r=>obtain ⟨_,_,e,_⟩:=hv 0 (.string s) rfl;cases e
  subst hl
  exact (Tryz.slices_Clone_nil 0 c w).mono fun e w' ⟨h1,h2⟩=>by
   subst h1;subst h2
   exact ⟨none,0,rfl,Vw.nil _ _,Nat.le_refl _,Nat.zero_le _,(fun _ _ e=>by cases e),Below.refl _ _⟩
 ·refine (cloneW_any b off c l w (fun i s hi=>?_) hm).mono ?_
  ·obtain ⟨b',o',e,h⟩:=hv i (.string s) (by rw [List.getElem?_map,hi];rfl)
   cases e;exact h
  ·rintro e w' ⟨v,rfl,ho,hb⟩
   obtain ⟨a0,c0,rfl,h1,h2,h3⟩:=own_form ho
   refine ⟨a0,c0,rfl,vw_of_own ho,h1,h2,fun b' o' e=>?_,hb⟩
   rcases h3 with ⟨h,-⟩ | ⟨g,h,h',-⟩
   ·rw [h] at e;cases e
   ·rw [h] at e;cases e;exact h'
theorem TRx.view {w:World} {rb nb:Nat} {ws:List ByteArray} {fl:Bool} (h:TRx w rb nb ws fl):∃ a c,w.cell? ⟨rb,0,none⟩=some (.slice a ws.length c)∧Vw w a (strCells ws)∧(a=none∨∃ b off:Nat,a=some ⟨b,off,none⟩):=by
 obtain ⟨⟨a,c,hb,hc,hl,hm,hs⟩,hn⟩:=h
 refine ⟨a,c,hb.cell 0,fun i v hi=>?_,hs⟩
 rw [List.getElem?_map] at hi
 cases hw:ws[i]? with
 | none=>rw [hw] at hi;cases hi
 | some s =>
  rw [hw] at hi;cases hi
  obtain ⟨off,e1,e2⟩:=hc i s hw
  exact ⟨nb,off,e1,e2⟩
theorem zeroPl:(TmM.mk 0 0 0 none 0 0 []).pl=.mk 0 0 0 []:=by rw [TmM.pl_mk];rfl
theorem parse_all (ws:List ByteArray) (nb:Nat) (a:Option Addr) (n c:Nat) (w:World) (hc:∀ i s,ws[i]? = some s→∃ off,a=some ⟨nb,off,none⟩∧w.cell? ⟨nb,off+i,none⟩=some (.string s)) (hl:ws.length=n) (hnc:n≤c) (hm:c≤9223372036854775807) (hb:nb<w.heap.size) (hz:ws.length≤1000) (hsz:∀ s ∈ ws,s.size≤1000) (hN:NumW w) (hsp:a=none∨∃ b off:Nat,a=some ⟨b,off,none⟩) :
  Calls Tryz.prog 35 #[.slice a n c] w (PaP w ws):=by
 obtain ⟨W,hW⟩:∃ W,(w.alloc (.cells #[.int .i64 0,.int .i64 0,.int .i64 0,.slice none 0 0] 24)).alloc (.cells #[.slice a n c,.bool false] 124)=W:=⟨_,rfl⟩
 have B0:RowKit.Hid (Blk W w.heap.size 24 #[.int .i64 0,.int .i64 0,.int .i64 0,.slice none 0 0]):=by show Blk _ _ _ _;rw [← hW];exact (Blk.new w _ _).alloc _
 have BB:RowKit.Hid (Below w.heap.size w W):=by show Below _ _ _;rw [← hW];exact Bw.out
 have BR:TRx W (w.heap.size+1) nb ws false:=by
  refine ⟨⟨a,c,?_,fun i s h=>?_,by omega,by omega,hsp⟩,by omega⟩
  ·rw [hl,← hW];exact Blk.fresh (by simp)
  ·obtain ⟨off,e1,e2⟩:=hc i s h
   exact ⟨off,e1,bc1 BB.out e2⟩
 have HT:=hid (rg_all ws.length ws (Nat.le_refl _) hz hsz W (w.heap.size+1) nb BR (hN.below BB.out) (hN.lt (Nat.le_succ _)) (by have:=BB.out.size;omega))
 have yW:w.heap.size+1<W.heap.size:=BR.lt
 have HZ:=hid hz
 clear hc hl BR hN hsz hz hnc
 go_enter Tryz.func35,Tryz.ntmps35
 go_upto_region 3 with (first
  | (go_at_call 70;(with_reducible refine HT.out.mono ?_);rintro e w2 ⟨⟨op,num,more,a2,n2,c2,kids⟩,r2,fl,rfl,hok,hfr,hr,hy,hn,hs,hk2⟩;have x1:=hr.flag;have R2:=hid hr;have OK2:=hid hok;have FR2:=hid hfr;have HY:=hid hy;have HN:=hid hn;have HS:=hid hs;have B2:=hid (hk2.blk B0.out (by show ¬ _=_;omega));have K2:=hid hk2;have y2:=hk2.size;have yx:w.heap.size+1<w2.heap.size:=(by omega);dsimp only [encTm];clear hok hfr hr hk2 hy hn hs)
  | (refine st_new rfl 24 (.tmp 6) (.tmp 12) rfl #[.int .i64 op,.int .i64 num,.int .i64 more,.slice a2 n2 c2] _ _ rfl rfl tmInfo rfl (tm_one _ _ _ _ _ _) ?_))
 have yb:=BB.out.size
 have BA:RowKit.Hid (Below w2.heap.size w2 (w2.alloc (.cells #[.int .i64 op,.int .i64 num,.int .i64 more,.slice a2 n2 c2] 24))):=hid (by show Below _ _ _;exact Bw.out)
 have B3:=hid (B2.out.below BA.out)
 have H2:RowKit.Hid (Below w.heap.size W w2):=hid (K2.out.toBelow (by omega) fun i hi=>by show ¬ i=w.heap.size+1;omega)
 have H3:RowKit.Hid (Below w.heap.size w (w2.alloc (.cells #[.int .i64 op,.int .i64 num,.int .i64 more,.slice a2 n2 c2] 24))):=hid ((BB.out.trans H2.out).trans (BA.out.mono (by omega)))
 cases fl with
 | true =>
  have HN':=hid (HN.out rfl)
  go_wp2_with (refine wpList_store_row rfl 24 (.tmp 2) (.tmp 17) rfl w.heap.size #[.int .i64 0,.int .i64 0,.int .i64 0,.slice none 0 0] rfl rfl _ _ B3.out tmInfo rfl (tm_one _ _ _ _ _ _) ?_)
  have B9:=setRow_heap (w2.alloc (.cells #[.int .i64 op,.int .i64 num,.int .i64 more,.slice a2 n2 c2] 24)) w.heap.size _ #[.int .i64 0,.int .i64 0,.int .i64 0,.slice none 0 0] _ _ B3.out
  refine bodyPost_ret (v:=.tuple #[.agg #[.int .i64 0,.int .i64 0,.int .i64 0,.slice none 0 0],.slice none 0 0,.int .i64 4]) (by simp [results,Tryz.results35,go_sem,Blk.cell B9]) rfl ?_
  exact ⟨.mk 0 0 0 none 0 0 [],none,0,0,[],4,rfl,.inr ⟨zeroPl,rfl,.inr ⟨HN'.out,rfl⟩⟩,leafOk,Vw.nil _ _,rfl,Nat.le_refl _,Nat.zero_le _,below_setRow H3.out (Nat.le_refl _) _⟩
 | false =>
  have HY':=hid (HY.out rfl)
  have HCK:=hid fun W' (hW':Below w2.heap.size w2 W')=>check_any (.mk op num more a2 n2 c2 kids) W' (OK2.out.beh hW')
  obtain ⟨ck,hck⟩:∃ k,chkT (TmM.mk op num more a2 n2 c2 kids).pl=k:=⟨_,rfl⟩
  rw [hck] at HCK
  have HCKE:=hid hck
  clear hck
  by_cases hk0:ck=0
  ·subst hk0
   go_wp2_with (first
    | (refine wpList_load_row rfl 24 (.tmp 6) rfl w2.heap.size rfl _ #[.int .i64 op,.int .i64 num,.int .i64 more,.slice a2 n2 c2] _ _ (Blk.new _ _ _) Tryz.underlying24 rfl tmInfo ?_)
    | (go_at_call 40;refine (HCK.out _ BA.out).mono ?_;rintro e w4 ⟨rfl,hb4⟩;have BN4:=hid ((Blk.new w2 24 #[.int .i64 op,.int .i64 num,.int .i64 more,.slice a2 n2 c2]).below hb4);have HB4:RowKit.Hid (Below w2.heap.size w2 w4):=hid (btr BA.out hb4);clear hb4))
   have q0:w4.cell? ⟨w2.heap.size,0,none⟩=some (.int .i64 op):=BN4.out.cell 0
   have q1:w4.cell? ⟨w2.heap.size,1,none⟩=some (.int .i64 num):=BN4.out.cell 1
   have q2:w4.cell? ⟨w2.heap.size,2,none⟩=some (.int .i64 more):=BN4.out.cell 2
   have q3:w4.cell? ⟨w2.heap.size,3,none⟩=some (.slice a2 n2 c2):=BN4.out.cell 3
   obtain ⟨a3,c3,x0,hv3,hsp3⟩:=(R2.out.behind HB4.out).view
   have HV3:=hid hv3;have HSP:=hid hsp3
   have hrl:r2.length≤1000000:=by have:=HS.out.length_le;have:=HZ.out;omega
   have HC:=hid fun W' (hW':Below w4.heap.size w4 W')=>cloneV_any a3 c3 r2 W' (HV3.out.below hW') hrl HSP.out
   have B4:=hid (B2.out.below HB4.out)
   have y4:=HB4.out.size
   clear x1 hv3 hsp3
   obtain ⟨m,hmm⟩:∃ m,r2.length=m:=⟨_,rfl⟩
   rw [hmm] at x0 HC
   have HM:=hid hmm
   clear hmm hrl
   have CC:=hid (And.intro q0 (And.intro q1 (And.intro q2 (And.intro q3 x0))))
   clear q0 q1 q2 q3 x0
   go_upto_region 8 with fail
   go_region_held3 (fun w'=>w'.cell? ⟨w2.heap.size,0,none⟩=some (.int .i64 op)∧w'.cell? ⟨w2.heap.size,1,none⟩=some (.int .i64 num)∧w'.cell? ⟨w2.heap.size,2,none⟩=some (.int .i64 more)∧w'.cell? ⟨w2.heap.size,3,none⟩=some (.slice a2 n2 c2)∧w'.cell? ⟨w.heap.size+1,0,none⟩=some (.slice a3 m c3)) (first | exact CC.out | exact (have A:=CC.out;⟨bc1 k1.out A.1,bc1 k1.out A.2.1,bc1 k1.out A.2.2.1,bc1 k1.out A.2.2.2.1,bc1 k1.out A.2.2.2.2⟩) | exact (have A:=CC.out;⟨cell_fr4 (by omega) (bc1 k1.out A.1),cell_fr4 (by omega) (bc1 k1.out A.2.1),cell_fr4 (by omega) (bc1 k1.out A.2.2.1),cell_fr4 (by omega) (bc1 k1.out A.2.2.2.1),cell_fr4 (by omega) (bc1 k1.out A.2.2.2.2)⟩))
    (first
     | (go_at_call 71;(with_reducible refine (HC.out _ Bw.out).mono ?_);rintro e v1 ⟨a9,c9,rfl,ho,h9,h9',hf9,hb1⟩;have HF9:RowKit.Hid (∀ b off,a9=some ⟨b,off,none⟩→¬ b=w.heap.size):=hid (fun b off e=>by have q:=hf9 b off e;(try simp at q);omega);have k1:RowKit.Hid (Below w4.heap.size w4 v1):=hid (btr Bw.out hb1);have HO:=hid ho;have H9:=hid h9;have H9':=hid h9';have BR1:=hid (B4.out.below k1.out);have z0:v1.cell? ⟨w.heap.size,0,none⟩=some (.int .i64 0):=BR1.out.cell 0;have z1:v1.cell? ⟨w.heap.size,1,none⟩=some (.int .i64 0):=BR1.out.cell 1;have z2:v1.cell? ⟨w.heap.size,2,none⟩=some (.int .i64 0):=BR1.out.cell 2;have z3:v1.cell? ⟨w.heap.size,3,none⟩=some (.slice none 0 0):=BR1.out.cell 3;have f0:=BR1.out.free 0;have f1:=BR1.out.free 1;have f2:=BR1.out.free 2;have f3:=BR1.out.free 3;have zl:=BR1.out.lt;clear ho hb1 h9 h9' hf9)
     | fail)
   all_goals
    go_wp2
    have B9:=Blk.put4 (v0:=.int .i64 op) (v1:=.int .i64 num) (v2:=.int .i64 more) (v3:=.slice a2 n2 c2) BR1.out rfl
    have KX:Kept (fun k=>k=w.heap.size) v1 ((((v1.setCell ⟨w.heap.size,0,none⟩ (.int .i64 op)).setCell ⟨w.heap.size,1,none⟩ (.int .i64 num)).setCell ⟨w.heap.size,2,none⟩ (.int .i64 more)).setCell ⟨w.heap.size,3,none⟩ (.slice a2 n2 c2)):=((((Kept.refl (fun k=>k=w.heap.size) v1).set rfl).set rfl).set rfl).set rfl
    refine bodyPost_ret (v:=.tuple #[.agg #[.int .i64 op,.int .i64 num,.int .i64 more,.slice a2 n2 c2],.slice a9 m c9,.int .i64 0]) (by simp [results,Tryz.results35,go_sem,Blk.cell B9]) rfl ?_
    have hsz:W.heap.size≤v1.heap.size:=by have:=H2.out.size;have:=k1.out.size;omega
    have HBX:Below w.heap.size w v1:=(BB.out.trans H2.out).trans ((HB4.out.mono (by have:=H2.out.size;omega)).trans (k1.out.mono (by omega)))
    refine ⟨.mk op num more a2 n2 c2 kids,a9,m,c9,r2,0,rfl,.inl ⟨HY'.out,HCKE.out,rfl⟩,tmOk_kept (OK2.out.beh (btr HB4.out k1.out)) FR2.out KX (by omega),?_,HM.out,H9.out,H9'.out,HBX.trans (KX.toBelow (by omega) fun i hi=>by show ¬ i=w.heap.size;omega)⟩
    exact KX.vw HO.out HF9.out
  ·have hk1:(ck == 0)=false:=by simpa using hk0
   go_wp2_with (first
    | (refine wpList_load_row rfl 24 (.tmp 6) rfl w2.heap.size rfl _ #[.int .i64 op,.int .i64 num,.int .i64 more,.slice a2 n2 c2] _ _ (Blk.new _ _ _) Tryz.underlying24 rfl tmInfo ?_)
    | (go_at_call 40;refine (HCK.out _ BA.out).mono ?_;rintro e w4 ⟨rfl,hb4⟩;have B4:=hid (B3.out.below hb4);have H4:RowKit.Hid (Below w.heap.size w w4):=hid (btr H3.out hb4);clear hb4)
    | (refine wpList_store_row rfl 24 (.tmp 2) (.tmp 22) rfl w.heap.size #[.int .i64 0,.int .i64 0,.int .i64 0,.slice none 0 0] rfl rfl _ _ B4.out tmInfo rfl (tm_one _ _ _ _ _ _) ?_))
   have B9:=setRow_heap w4 w.heap.size _ #[.int .i64 0,.int .i64 0,.int .i64 0,.slice none 0 0] _ _ B4.out
   refine bodyPost_ret (v:=.tuple #[.agg #[.int .i64 0,.int .i64 0,.int .i64 0,.slice none 0 0],.slice none 0 0,.int .i64 ck]) (by simp [results,Tryz.results35,go_sem,Blk.cell B9]) rfl ?_
   exact ⟨.mk 0 0 0 none 0 0 [],none,0,0,[],ck,rfl,.inr ⟨zeroPl,rfl,.inl ⟨_,_,HY'.out,HCKE.out,hk0⟩⟩,leafOk,Vw.nil _ _,rfl,Nat.le_refl _,Nat.zero_le _,below_setRow H4.out (Nat.le_refl _) _⟩
end Go.Proofs.YtancajcelmhnkaaGreatDoor
