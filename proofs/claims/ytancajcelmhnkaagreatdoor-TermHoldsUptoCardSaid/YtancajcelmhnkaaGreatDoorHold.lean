/- The law TermHolds,walked. (Printed by gen4/hold.py.) -/
import Derived.Test.YtancajcelmhnkaaGreatDoorHq
import Derived.Test.YtancajcelmhnkaaGreatDoorHr
import Derived.Test.YtancajcelmhnkaaGreatDoorHs
import Derived.Test.YtancajcelmhnkaaGreatDoorAwk
set_option maxRecDepth 100000
set_option maxHeartbeats 8000000
namespace Go.Proofs.YtancajcelmhnkaaGreatDoor
open Go.RowKit Go.Sort Go.Shelf
set_option linter.unusedVariables false
set_option linter.unusedSimpArgs false
theorem isRow_below {k:IntKind} {w w':World} {a:Option Addr} {len cap:Nat} {zs:List Int} (h:IsRow k w a len cap zs) (hb:Below w.heap.size w w'):IsRow k w' a len cap zs:=by
 rcases h with h | ⟨x,h1,h2,h3,h4,h5,h6⟩
 ·exact .inl h
 ·refine .inr ⟨x,h1,h2,h3,h4,fun i hi=>?_,h6⟩
  have hc:=h5 i hi
  exact (World.cell?_of_block (hb.block _ (World.block_lt_of_cell? w _ hc))).trans hc
def EvG (p:PlM) (t:Tm) (a b c:List Rc):Prop:=(evErr p t ≠ 0∧a=[]∧b=[]∧c=[])∨(evErr p t=0∧IsCan (p.env.ev t).yes a∧IsCan (p.env.ev t).no b∧IsCan (p.env.rest (p.env.ev t)) c)
theorem EvG.uniq {p:PlM} {t:Tm} {a b c a' b' c':List Rc} (h:EvG p t a b c) (k:EvG p t a' b' c'):a=a'∧b=b'∧c=c':=by
 rcases h with ⟨h0,rfl,rfl,rfl⟩ | ⟨h0,h1,h2,h3⟩ <;> rcases k with ⟨k0,rfl,rfl,rfl⟩ | ⟨k0,k1,k2,k3⟩
 ·exact ⟨rfl,rfl,rfl⟩
 ·exact absurd k0 h0
 ·exact absurd h0 k0
 ·exact ⟨h1.uniq k1,h2.uniq k2,h3.uniq k3⟩
def EvQ (w:World) (p:PlM) (t:Tm) (e:Ending) (w':World):Prop:=∃ y n o:Sc Rc,e=.returned (.tuple #[.agg #[.slice y.a y.n y.c,.slice n.a n.n n.c,.slice o.a o.n o.c],.int .i64 (evErr p t)])∧ScOk w' y∧ScOk w' n∧ScOk w' o∧EvG p t y.l n.l o.l∧Below w.heap.size w w'
theorem scOk_no (w:World):ScOk w ⟨none,0,0,[]⟩:=⟨fun i v hi=>by simp [rcCells,cellsOf] at hi,rfl,Nat.zero_le _⟩
theorem EvP.q {w w':World} {p:PlM} {t:Tm} {e:Ending} (h:EvP w p t e w'):EvQ w p t e w':=by
 rcases h with ⟨h0,rfl,hb⟩ | ⟨h0,y,n,o,rfl,h1,h2,h3,hb,-⟩
 ·exact ⟨⟨none,0,0,[]⟩,⟨none,0,0,[]⟩,⟨none,0,0,[]⟩,rfl,scOk_no _,scOk_no _,scOk_no _,.inl ⟨h0,rfl,rfl,rfl⟩,hb⟩
 ·exact ⟨y,n,o,by rw [h0],h1.ok.1,h2.ok.1,h3.ok.1,.inr ⟨h0,h1.can,h2.can,h3.can⟩,hb⟩
structure HoW (b gl g0:Nat) (tb:Array Value) (w1 wx:World) (rc:Sc Rc) (crop:Int) (cr:Sc Crp) (hi:Sc RcdM) (zo:Sc FtrM):Prop where
 r:PlR (hole b wx) (kwP rc crop cr hi zo 0 0)
 li:Blk wx gl 42 #[.int .i64 0,.slice rc.a rc.n rc.c,.int .i64 crop,.int .i64 0]
 st:Steps1 b w1 wx
 raw:Blk wx g0 24 tb
structure HoL (gl gt:Nat) (wx:World) (rc:Sc Rc) (crop:Int) (cr:Sc Crp) (hi:Sc RcdM) (zo:Sc FtrM) (L:List TmM):Prop where
 r:PlR wx (kwP rc crop cr hi zo 0 0)
 li:Blk wx gl 42 #[.int .i64 0,.slice rc.a rc.n rc.c,.int .i64 crop,.int .i64 0]
 tm:Blk wx gt 24 (cellsOf encTm L).toArray
 ok:∀ t ∈ L,TmOk wx t∧t.pl.size≤2147483647
 len:L.length=3
theorem HoL.below {gl gt:Nat} {w w':World} {rc:Sc Rc} {crop:Int} {cr:Sc Crp} {hi:Sc RcdM} {zo:Sc FtrM} {L:List TmM} (h:HoL gl gt w rc crop cr hi zo L) (hb:Below w.heap.size w w'):HoL gl gt w' rc crop cr hi zo L :=
 ⟨h.r.below hb,h.li.below hb,h.tm.below hb,fun t ht=>⟨(h.ok t ht).1.beh hb,(h.ok t ht).2⟩,h.len⟩
theorem kw_plr {b:Nat} {w:World} {rc:Sc Rc} {crop cn:Int} {cr:Sc Crp} {hi:Sc RcdM} {zo:Sc FtrM} (h1:Rws encCrp (hole b w) cr 8) (h2:Cat cr.l) (h3:KHs b cn 4 w hi) (h4:KL b w zo) (h5:ScOk2 (hole b w) rc) (h6:Vld rc.l→Board (inRc rc.l)):PlR (hole b w) (kwP rc crop cr hi zo 0 0) :=
 ⟨⟨h1.wide (by decide),h3.rws.wide (by decide),h4.rws.wide (by decide),h5,h2.toM,h3.rows,fun _=>h3.hist.good,h4.rows,h4.lay.good⟩,h2,⟨h3.cap.1,h3.cap.2.1⟩,h3.can,fun r hr=>⟨(h4.can r hr).1,fun x y k=>by have:=(h4.can r hr).2 x y k;omega⟩,h6⟩
theorem blk_rng {w:World} {g:Nat} {T:TypeId} {L:List TmM} (h:Blk w g T (cellsOf encTm L).toArray) {k:Nat} (hk:k<L.length):w.rangeAt g (k * 4) (encTm L[k]):=by
 have hV:Vw w (some ⟨g,0,none⟩) (cellsOf encTm L):=fun i v hi=>⟨g,0,rfl,by rw [Nat.zero_add,h.cell i];simpa using hi⟩
 obtain ⟨b,off,e,-,hr⟩:=hV.range (k:=4) (fun x _=>encTm_len x) (by omega) k hk
 cases e
 simpa using hr
theorem infoAr:(Tryz.prog.info? 52).map (fun i=>(i.zero,i.size,i.bytes))=some (some (.agg #[.int .i64 0,.int .i64 0]),2,16):=by kernel_rfl
theorem arInfo:(Tryz.prog.info? 52).map (·.size)=some 2:=by kernel_rfl
theorem elAr:ElT Tryz.prog 53 52 2 16:=.mk' Tryz.underlying53 infoAr rfl (by decide) (by decide)
theorem ar_one (a b:Int):(#[.int .i64 a,.int .i64 b]:Array Value).all (·.oneCell')=true:=by
 rw [List.all_toArray];rfl
theorem holds_any (t:TmM) (year day bye:Int) (A:Option Addr) (len cap:Nat) (zs:List Int) (w:World) (ht:TmOk w t) (hz:t.pl.size≤2147483647) (hr:IsRow .i64 w A len cap zs) :
  Calls Tryz.prog 3 #[.agg (encTm t).toArray,.int .i64 year,.int .i64 day,.int .i64 bye,.slice A len cap] w fun e w'=>e=.returned (.bool true)∧Below w.heap.size w w':=by
 have HSM:=hid fun W' (hW':Below w.heap.size w W')=>small_any t 12 (by omega) W' (ht.beh hW') hz
 have TI:Hid ((Tryz.prog.info? 24).map (·.size)=some (encTm t).toArray.size):=encTm_info t
 obtain ⟨tb,htb⟩:∃ tb,(encTm t).toArray=tb:=⟨_,rfl⟩
 have HTB:=hid htb
 obtain ⟨W,hW⟩:∃ W,w.alloc (.cells tb 24)=W:=⟨_,rfl⟩
 have B0:Hid (Blk W w.heap.size 24 tb):=by show Blk _ _ _ _;rw [← hW];exact Blk.new w _ _
 have BB:Hid (Below w.heap.size w W):=by show Below _ _ _;rw [← hW];exact Bw.out
 have yW:=B0.out.lt
 have HT:=hid ht;have HZ:=hid hz;have HRW:=hid hr
 rw [htb] at HSM TI ⊢
 clear ht hz hr htb
 by_cases hsm:t.pl.size≤12
 case neg =>
  have HS:Hid (∀ W',Below w.heap.size w W'→Calls Tryz.prog 9 #[.agg tb,.int .i64 12] W' fun e w'=>e=.returned (.bool false)∧Below W'.heap.size W' w'):=fun W' hW'=>(HSM.out W' hW').mono fun e w' h=>⟨by rw [h.1,decide_eq_false hsm],h.2⟩
  clear hsm HSM
  go_enter Tryz.func3,Tryz.ntmps3
  go_wp2_with (first
   | (refine wpList_load_row rfl 24 (.tmp 5) rfl w.heap.size rfl _ tb _ _ B0.out Tryz.underlying24 rfl TI.out ?_)
   | (go_at_call 9;refine (HS.out _ BB.out).mono ?_;rintro e w1 ⟨rfl,hb1⟩;have HB1:=hid (btr BB.out hb1);clear hb1)
   | (go_at_call 10;refine (awake_any _).mono ?_;rintro e w2 ⟨rfl,hb2⟩;have HB2:=hid (btr HB1.out hb2);clear hb2))
  go_ret
  exact ⟨rfl,HB2.out⟩
 have HS:Hid (∀ W',Below w.heap.size w W'→Calls Tryz.prog 9 #[.agg tb,.int .i64 12] W' fun e w'=>e=.returned (.bool true)∧Below W'.heap.size W' w'):=fun W' hW'=>(HSM.out W' hW').mono fun e w' h=>⟨by rw [h.1,decide_eq_true hsm],h.2⟩
 clear hsm HSM
 go_enter Tryz.func3,Tryz.ntmps3
 go_upto_region 8 with (first
  | (refine wpList_load_row rfl 24 (.tmp 5) rfl w.heap.size rfl _ tb _ _ B0.out Tryz.underlying24 rfl TI.out ?_)
  | (go_at_call 9;refine (HS.out _ BB.out).mono ?_;rintro e wA ⟨rfl,hbA⟩;have HBA:=hid (btr BB.out hbA);have BA0:=hid (B0.out.below hbA);have HN:=hid (new_any A len cap zs wA (isRow_below HRW.out HBA.out));have yA:=hbA.size;clear hbA)
  | (go_at_call 11;refine HN.out.mono ?_;rintro e w1 ⟨rfl,hb1,ht1⟩;have HB1:=hid (btr HBA.out hb1);have T1:=hid ht1;have B1:=hid (BA0.out.below hb1);have y1:=ht1.lt;clear hb1 ht1 HN)
  | (go_at_call 12;refine (kcropsW_any wA.heap.size w1 T1.out).mono ?_;rintro e w2 ⟨⟨ca,cn,cc,cl⟩,rfl,c1,c2,c3,c4,c5,hs2,c6,c7,c8⟩;have C2:=hid c1;have CAT:=hid c2;have CF:=hid c5;have WC2:=hid c6;have S2:=hid hs2;have B2:=hid (B1.out.step hs2 (by omega));have y2:=hs2.size;dsimp only at c4 c7 c8;have cfew:cn≤8:=c1.few;clear c1 c2 c3 c5 c6 hs2)
  | (go_at_call 13;refine (khistoryW_any wA.heap.size ca cn cc 4 5 w2 S2.out.now (by omega) (by omega) (by omega) (by omega) (by omega) (by omega)).mono ?_;rintro e w3 ⟨⟨ha,hn,hc,hl⟩,rfl,h1,h2,h3,hs3,h4⟩;have H3:=hid h1;have HF:=hid h3;have WH3:=hid h4;have S3:=hid (sts S2.out hs3);have B3:=hid (B2.out.step hs3 (by omega));have C3:=hid (C2.out.below (hole_steps hs3));have WC3:=hid (WC2.out.step hs3 fun g off e=>by have:=CF.out g off e;omega);have y3:=hs3.size;dsimp only at h2;clear h1 h3 h4 hs3)
  | (go_at_call 14;refine (klayerW_any wA.heap.size 3 w3 S3.out.now (by omega) (by omega)).mono ?_;rintro e w4 ⟨⟨za,zn,zc,zl⟩,rfl,l1,l2,l3,hs4,l4,l5⟩;have L4:=hid l1;have LF:=hid l3;have WZ4:=hid l4;have AP:=hid l5;have S4:=hid (sts S3.out hs4);have B4:=hid (B3.out.step hs4 (by omega));have C4:=hid (C3.out.below (hole_steps hs4));have H4:=hid (H3.out.holed (hole_steps hs4));have WC4:=hid (WC3.out.step hs4 fun g off e=>by have:=CF.out g off e;omega);have WH4:=hid (WH3.out.step hs4 fun g off e=>by have:=HF.out g off e;omega);have y4:=hs4.size;dsimp only at l2;clear l1 l3 l4 l5 hs4)
  | (go_at_call 15;refine (kbroken_any wA.heap.size w4 S4.out.now).mono ?_;rintro e w5 ⟨⟨ra,rn,rcc,rl⟩,rfl,r1,r2,r3,hs5⟩;have R5:=hid r1;have RB:=hid r2;have RF:=hid r3;have S5:=hid (sts S4.out hs5);have B5:=hid (B4.out.step hs5 (by omega));have C5:=hid (C4.out.below (hole_steps hs5));have H5:=hid (H4.out.holed (hole_steps hs5));have L5:=hid (L4.out.holed (hole_steps hs5));have WC5:=hid (WC4.out.step hs5 fun g off e=>by have:=CF.out g off e;omega);have WH5:=hid (WH4.out.step hs5 fun g off e=>by have:=HF.out g off e;omega);have WZ5:=hid (WZ4.out.step hs5 fun g off e=>by have:=LF.out g off e;omega);have y5:=hs5.size;clear r1 r2 r3 hs5)
  | (go_at_call 16;refine (next_any _ _ _ S5.out.now (by omega) (by omega)).mono ?_;rintro e w6 ⟨r6,p6,q6,rfl,hs6⟩;have S6:=hid (sts S5.out hs6);have B6:=hid (B5.out.step hs6 (by omega));have R6:=hid (R5.out.below (hole_steps hs6));have C6:=hid (C5.out.below (hole_steps hs6));have H6:=hid (H5.out.holed (hole_steps hs6));have L6:=hid (L5.out.holed (hole_steps hs6));have WC6:=hid (WC5.out.step hs6 fun g off e=>by have:=CF.out g off e;omega);have WH6:=hid (WH5.out.step hs6 fun g off e=>by have:=HF.out g off e;omega);have WZ6:=hid (WZ5.out.step hs6 fun g off e=>by have:=LF.out g off e;omega);have y6:=hs6.size;clear hs6)
  | (refine st_new rfl 42 (.tmp 15) (.tmp 43) rfl #[.int .i64 0,.slice ra rn rcc,.int .i64 r6,.int .i64 0] _ _ rfl rfl line_info rfl (line_one _ _ _ _ _ _) ?_))
 have P6:=hid (kw_plr (crop:=r6) C6.out CAT.out H6.out L6.out R6.out RB.out)
 have HG:=hid H6.out.hist.good
 have YC:Hid (∀ g off,ca=some ⟨g,off,none⟩→g<w2.heap.size):=fun g off e=>by obtain ⟨_,T,cs,k⟩:=WC2.out g off e;exact k.lt
 have YH:Hid (∀ g off,ha=some ⟨g,off,none⟩→g<w3.heap.size):=fun g off e=>by obtain ⟨_,T,cs,k⟩:=WH3.out g off e;exact k.lt
 have YZ:Hid (∀ g off,za=some ⟨g,off,none⟩→g<w4.heap.size):=fun g off e=>by obtain ⟨_,T,cs,k⟩:=WZ4.out g off e;exact k.lt
 have HR4:Hid (∀ r ∈ hl,r.s.l ≠ []→∀ q off,r.s.a=some ⟨q,off,none⟩→q<w3.heap.size):=fun r hr h0 q off e=>by
  have:=ok_lt (H3.out.rows r hr).fill h0 q off e;omega
 obtain ⟨W6,hW6⟩:∃ W6,w6.alloc (.cells #[.int .i64 0,.slice ra rn rcc,.int .i64 r6,.int .i64 0] 42)=W6:=⟨_,rfl⟩
 have S66:Hid (Steps1 wA.heap.size w6 W6):=by show Steps1 _ _ _;rw [← hW6];exact sal (Steps1.refl S6.out.now) _
 have BL6:Hid (Blk W6 w6.heap.size 42 #[.int .i64 0,.slice ra rn rcc,.int .i64 r6,.int .i64 0]):=by show Blk _ _ _ _;rw [← hW6];exact Blk.new _ _ _
 have y66:=BL6.out.lt
 rw [hW6]
 clear hW6 C2 C3 C4 C5 C6 H3 H4 H5 L4 L5 R5 R6 S2 S3 S4 S5 B1 B2 B3 B4 B5 WC2 WC3 WC4 WC5 WH3 WH4 WH5 WZ4 WZ5
 go_upto_block 0 with (go_at_call 16;refine (next_any _ _ _ (sts S6.out S66.out).now (by omega) (by omega)).mono ?_;rintro e w8 ⟨r8,p8,q8,rfl,hs8⟩;have S68:=hid (sts S66.out hs8);have BL8:=hid (BL6.out.step hs8 (by omega));have B8:=hid ((B6.out.step S66.out (by omega)).step hs8 (by omega));have y8:=hs8.size;clear hs8)
 have P8:=hid (P6.out.below (hole_steps S68.out))
 have S18:=hid (sts S6.out S68.out)
 have WC8:=hid (WC6.out.step S68.out fun g off e=>by have:=CF.out g off e;omega)
 have WH8:=hid (WH6.out.step S68.out fun g off e=>by have:=HF.out g off e;omega)
 have WZ8:=hid (WZ6.out.step S68.out fun g off e=>by have:=LF.out g off e;omega)
 go_cut [12] (fun s12 wx=>∃ (crop:Int) (cr:Sc Crp) (hl':List RcdM) (zl':List FtrM),s12=.slice cr.a cr.n cr.c∧HoW wA.heap.size w6.heap.size w.heap.size tb w1 wx ⟨ra,rn,rcc,rl⟩ crop cr ⟨ha,hn,hc,hl'⟩ ⟨za,zn,zc,zl'⟩)
 case first =>
  obtain rfl | rfl | rfl | rfl | rfl | hr8:r8=0∨r8=1∨r8=2∨r8=3∨r8=4∨5≤r8:=by omega
  ·have l2c:w8.cell? ⟨w6.heap.size,2,none⟩=some (.int .i64 r6):=BL8.out.cell 2
   have l2f:=BL8.out.free 2
   go_wp2
   go_meet
   case rel =>
    have hs9:=sst S68.out w6.heap.size 2 (.int .i64 bye) (Nat.le_refl _)
    exact ⟨bye,⟨ca,cn,cc,cl⟩,hl,zl,rfl,(P6.out.below (hole_steps hs9)).re _ _ _,BL8.out.put 2 (.int .i64 bye),sts S6.out hs9,B8.out.far _ _ _ (by omega)⟩
  ·have i1:1≤cc:=by omega
   have i1':(1:Int)≤(cc:Int):=by omega
   go_wp2
   go_meet
   case rel=>exact ⟨r6,⟨ca,1,cc,cl.take 1⟩,hl,zl,rfl,P8.out.one (by omega) HG.out,BL8.out,S18.out,B8.out⟩
  ·obtain ⟨g,rfl⟩:∃ g,ca=some ⟨g,0,none⟩:=by
    cases ha0:ca with
    | none=>have:=P8.out.g.cr.nil (by exact ha0);dsimp only [kwP] at this;omega
    | some x =>
     obtain ⟨g,off,hx⟩:∃ g off,ca=some ⟨g,off,none⟩:=by
      have h0:=P8.out.g.cr.vw
      have hlen:cl.length=cn:=P8.out.g.cr.len
      obtain ⟨c0,l,rfl⟩:=List.exists_cons_of_ne_nil (l:=cl) (by intro e;subst e;simp at hlen;omega)
      obtain ⟨b',o',e',-⟩:=h0 0 (.string c0.name) rfl
      exact ⟨b',o',e'⟩
     obtain ⟨rfl,-⟩:=WC8.out g off hx
     exact ⟨g,ha0 ▸ hx⟩
   have gA:=CF.out g 0 rfl
   have gB:=YC.out g 0 rfl
   obtain ⟨-,T,cs,hB⟩:=WC8.out g 0 rfl
   have f2:=hB.free 2
   have hlen:cl.length=cn:=P8.out.g.cr.len
   obtain ⟨mk0,c2⟩:∃ mk0,w8.cell? ⟨g,2,none⟩=some (.int .i64 mk0):=by
    obtain ⟨c0,l,rfl⟩:=List.exists_cons_of_ne_nil (l:=cl) (by intro e;subst e;simp at hlen;omega)
    obtain ⟨b',o',e',k⟩:=P8.out.fill.g.cr.vw 2 (.int .i64 c0.marks) rfl
    cases e'
    exact ⟨_,by simpa using k⟩
   clear hB
   have i0:(0:Int)<(cn:Int):=by omega
   have i0':0<cn:=by omega
   go_wp2
   go_meet
   case rel =>
    obtain ⟨cl',hP⟩:=P8.out.marks (v:=bye) (by omega) (fun q off e=>by have:=HF.out q off e;omega) (fun q off e=>by have:=LF.out q off e;omega)
    exact ⟨r6,⟨some ⟨g,0,none⟩,cn,cc,cl'⟩,hl,zl,rfl,by rw [hole_setCell (by omega)];exact hP,BL8.out.far _ _ _ (by omega),sst S18.out _ _ _ (by omega),B8.out.far _ _ _ (by omega)⟩
  ·by_cases hn0:hn=0
   ·subst hn0
    go_wp2
    go_meet
    case rel=>exact ⟨r6,⟨ca,cn,cc,cl⟩,hl,zl,rfl,P8.out,BL8.out,S18.out,B8.out⟩
   obtain ⟨g,rfl⟩:∃ g,ha=some ⟨g,0,none⟩:=by
    cases ha0:ha with
    | none=>have:=P8.out.g.hi.nil (by exact ha0);dsimp only [kwP] at this;omega
    | some x =>
     obtain ⟨g,off,hx⟩:∃ g off,ha=some ⟨g,off,none⟩:=by
      have h0:=P8.out.g.hi.vw
      have hlen:hl.length=hn:=P8.out.g.hi.len
      obtain ⟨c0,l,rfl⟩:=List.exists_cons_of_ne_nil (l:=hl) (by intro e;subst e;simp at hlen;omega)
      obtain ⟨b',o',e',-⟩:=h0 0 (.int .i64 c0.year) rfl
      exact ⟨b',o',e'⟩
     obtain ⟨rfl,-⟩:=WH8.out g off hx
     exact ⟨g,ha0 ▸ hx⟩
   have gA:=HF.out g 0 rfl
   have gB:=YH.out g 0 rfl
   obtain ⟨-,T,cs,hB⟩:=WH8.out g 0 rfl
   have f2:=hB.free 1
   have hlen:hl.length=hn:=P8.out.g.hi.len
   obtain ⟨mk0,c2⟩:∃ mk0,w8.cell? ⟨g,1,none⟩=some (.int .i64 mk0):=by
    obtain ⟨c0,l,rfl⟩:=List.exists_cons_of_ne_nil (l:=hl) (by intro e;subst e;simp at hlen;omega)
    obtain ⟨b',o',e',k⟩:=P8.out.fill.g.hi.vw 1 (.int .i64 c0.crop) rfl
    cases e'
    exact ⟨_,by simpa using k⟩
   clear hB
   have i0:(0:Int)<(hn:Int):=by omega
   have i0':0<hn:=by omega
   obtain ⟨x,hx⟩:∃ x,modI bye 50=x:=⟨_,rfl⟩
   have HM:=hid (mod_any bye 50 w8 (by omega) (by omega))
   have x0:0≤x:=by rw [← hx];exact modI_lo _ _ (by omega)
   have x1:x<50:=by rw [← hx];exact modI_hi _ _ (by omega)
   rw [hx] at HM
   clear hx
   go_wp2_with (go_at_call 17;refine HM.out.mono ?_;rintro e w9 ⟨rfl,rfl⟩)
   go_meet
   case rel =>
    obtain ⟨hl',hP⟩:=P8.out.hist (v:=x - 3) (by omega) HG.out (by dsimp only;omega) (fun q off e=>by have:=YC.out q off e;omega) (fun q off e=>by have:=LF.out q off e;omega)
    exact ⟨r6,⟨ca,cn,cc,cl⟩,hl',zl,rfl,by rw [hole_setCell (by omega)];exact hP,BL8.out.far _ _ _ (by omega),sst S18.out _ _ _ (by omega),B8.out.far _ _ _ (by omega)⟩
  ·by_cases hn0:zn=0
   ·subst hn0
    go_wp2
    go_meet
    case rel=>exact ⟨r6,⟨ca,cn,cc,cl⟩,hl,zl,rfl,P8.out,BL8.out,S18.out,B8.out⟩
   obtain ⟨g,rfl⟩:∃ g,za=some ⟨g,0,none⟩:=by
    cases ha0:za with
    | none=>have:=P8.out.g.zo.nil (by exact ha0);dsimp only [kwP] at this;omega
    | some x =>
     obtain ⟨g,off,hx⟩:∃ g off,za=some ⟨g,off,none⟩:=by
      have h0:=P8.out.g.zo.vw
      have hlen:zl.length=zn:=P8.out.g.zo.len
      obtain ⟨c0,l,rfl⟩:=List.exists_cons_of_ne_nil (l:=zl) (by intro e;subst e;simp at hlen;omega)
      obtain ⟨b',o',e',-⟩:=h0 0 (.int .i64 c0.number) rfl
      exact ⟨b',o',e'⟩
     obtain ⟨rfl,-⟩:=WZ8.out g off hx
     exact ⟨g,ha0 ▸ hx⟩
   have gA:=LF.out g 0 rfl
   have gB:=YZ.out g 0 rfl
   obtain ⟨-,T,cs,hB⟩:=WZ8.out g 0 rfl
   have f2:=hB.free 1
   have hlen:zl.length=zn:=P8.out.g.zo.len
   obtain ⟨mk0,c2⟩:∃ mk0,w8.cell? ⟨g,1,none⟩=some (.int .i64 mk0):=by
    obtain ⟨c0,l,rfl⟩:=List.exists_cons_of_ne_nil (l:=zl) (by intro e;subst e;simp at hlen;omega)
    obtain ⟨b',o',e',k⟩:=P8.out.fill.g.zo.vw 1 (.int .i64 c0.kind) rfl
    cases e'
    exact ⟨_,by simpa using k⟩
   clear hB
   have i0:(0:Int)<(zn:Int):=by omega
   have i0':0<zn:=by omega
   go_wp2
   go_meet
   case rel =>
    obtain ⟨zl',hP⟩:=P8.out.zone (v:=bye) (by omega) (fun q off e=>by have:=YC.out q off e;omega) (fun q off e=>by have:=YH.out q off e;omega) (fun _ q off e=>by have:=RF.out q off e;omega) (fun r hr h0 q off e=>by have:=HR4.out r hr h0 q off e;omega) (fun r hr h0 q off e=>by have:=AP.out r hr h0 q off e g 0 rfl;omega)
    exact ⟨r6,⟨ca,cn,cc,cl⟩,hl,zl',rfl,by rw [hole_setCell (by omega)];exact hP,BL8.out.far _ _ _ (by omega),sst S18.out _ _ _ (by omega),B8.out.far _ _ _ (by omega)⟩
  ·have q0:((r8:Int) == 0)=false:=by simp;omega
   have q1:((r8:Int) == 1)=false:=by simp;omega
   have q2:((r8:Int) == 2)=false:=by simp;omega
   have q3:((r8:Int) == 3)=false:=by simp;omega
   have q4:((r8:Int) == 4)=false:=by simp;omega
   go_wp2
   go_meet
   case rel=>exact ⟨r6,⟨ca,cn,cc,cl⟩,hl,zl,rfl,P8.out,BL8.out,S18.out,B8.out⟩
 case rest =>
 obtain ⟨crop,⟨ca',cn',cc',cl'⟩,hl',zl',rfl,hh⟩:=hcut
 have HH:=hid hh
 have ybw:wA.heap.size<wc.heap.size:=hh.st.now.lt
 clear hh P6 P8 HG YC YH YZ HR4 S66 S68 S18 BL6 BL8 B6 B8 WC6 WC8 WH6 WH8 WZ6 WZ8 H6 L6 RB RF CF HF LF AP CAT
 obtain ⟨o0,n0,m0,a0,l0,c0,k0⟩:=t
 have hte:=HTB.out
 dsimp only [encTm] at hte
 subst hte
 have x0:wc.cell? ⟨w.heap.size,0,none⟩=some (.int .i64 o0):=HH.out.raw.cell 0
 have x1:wc.cell? ⟨w.heap.size,1,none⟩=some (.int .i64 n0):=HH.out.raw.cell 1
 have x2:wc.cell? ⟨w.heap.size,2,none⟩=some (.int .i64 m0):=HH.out.raw.cell 2
 have x3:wc.cell? ⟨w.heap.size,3,none⟩=some (.slice a0 l0 c0):=HH.out.raw.cell 3
 have HT2:=hid fun X (hX:Steps1 wA.heap.size wc X)=>kterm_any 2 wA.heap.size X hX.now (by decide)
 have HSP:=hid fun X (hX:Steps1 wA.heap.size wc X)=>kspoilt_any wA.heap.size bye X hX.now
 have ST:=hid (Steps1.refl HH.out.st.now)
 have BWC:Hid (Below w.heap.size w wc):=bos HB1.out (by omega) HH.out.st
 go_upto_region 21 with fail
 go_cut [86,87,88] (fun s86 s87 s88 wx=>∃ (gt:Nat) (L:List TmM),s86=.slice (some ⟨gt,0,none⟩) 3 3∧s87=.int .i64 3∧s88=.int .i64 0∧HoL w6.heap.size gt wx ⟨ra,rn,rcc,rl⟩ crop ⟨ca',cn',cc',cl'⟩ ⟨ha,hn,hc,hl'⟩ ⟨za,zn,zc,zl'⟩ L∧Below w.heap.size w wx)
 case first =>
  go_region_held3 (fun w'=>w'.cell? ⟨w.heap.size,0,none⟩=some (.int .i64 o0)∧w'.cell? ⟨w.heap.size,1,none⟩=some (.int .i64 n0)∧w'.cell? ⟨w.heap.size,2,none⟩=some (.int .i64 m0)∧w'.cell? ⟨w.heap.size,3,none⟩=some (.slice a0 l0 c0)) (with_reducible first | exact ⟨x0,x1,x2,x3⟩ | exact Cells4.below ⟨x0,x1,x2,x3⟩ (bal (Below.refl _ _) _) | exact Cells4.below ⟨x0,x1,x2,x3⟩ (bdr (Below.refl _ _)) | exact Cells4.below ⟨x0,x1,x2,x3⟩ (bal (bdr (Below.refl _ _)) _) | exact Cells4.below ⟨x0,x1,x2,x3⟩ (bdr (bal (Below.refl _ _) _)) | exact ⟨u0,u1,u2,u3⟩ | exact Cells4.below ⟨u0,u1,u2,u3⟩ (bal (Below.refl _ _) _) | exact Cells4.below ⟨u0,u1,u2,u3⟩ (bdr (Below.refl _ _)) | exact Cells4.below ⟨u0,u1,u2,u3⟩ (bal (bdr (Below.refl _ _)) _) | exact Cells4.below ⟨u0,u1,u2,u3⟩ (bdr (bal (Below.refl _ _) _)) | exact ⟨v0,v1,v2,v3⟩ | exact Cells4.below ⟨v0,v1,v2,v3⟩ (bal (Below.refl _ _) _) | exact Cells4.below ⟨v0,v1,v2,v3⟩ (bdr (Below.refl _ _)) | exact Cells4.below ⟨v0,v1,v2,v3⟩ (bal (bdr (Below.refl _ _)) _) | exact Cells4.below ⟨v0,v1,v2,v3⟩ (bdr (bal (Below.refl _ _) _)))
   (first
    | (go_at_call 18;refine (HT2.out _ (by first | exact ST.out | exact sdr ST.out)).mono ?_;rintro e w9 ⟨⟨o1,n1,m1,a1,l1,c1,k1⟩,rfl,hk9,hs9⟩;have SX:Hid (Steps1 wA.heap.size wc w9):=(by first | exact sts ST.out hs9 | exact sts (sdr ST.out) hs9);have K9:=hid hk9;have u0:=sc1 SX.out x0 (by omega);have u1:=sc1 SX.out x1 (by omega);have u2:=sc1 SX.out x2 (by omega);have u3:=sc1 SX.out x3 (by omega);have y9:=SX.out.size;(try simp at y9);dsimp only [encTm];clear hk9 hs9)
    | (go_at_call 19;refine (HSP.out _ (by first | exact SX.out | exact sdr SX.out)).mono ?_;rintro e w10 ⟨⟨o2,n2,m2,a2,l2',c2,k2⟩,rfl,h1,h2,h3,hs10⟩;have SY:Hid (Steps1 wA.heap.size w9 w10):=(by first | exact hs10 | exact sts (sdr (Steps1.refl SX.out.now)) hs10);have OK2:=hid h1;have SZ2:=hid h3;have v0:=sc1 SY.out u0 (by omega);have v1:=sc1 SY.out u1 (by omega);have v2:=sc1 SY.out u2 (by omega);have v3:=sc1 SY.out u3 (by omega);have y10:=SY.out.size;dsimp only [encTm];clear h1 h2 h3 hs10))
  all_goals go_wp2
  all_goals go_meet
  case rel =>
   have SXY:=hid (sts SX.out SY.out)
   have BN:Below w10.heap.size w10 (w10.alloc (.cells #[.int .i64 o0,.int .i64 n0,.int .i64 m0,.slice a0 l0 c0,.int .i64 o1,.int .i64 n1,.int .i64 m1,.slice a1 l1 c1,.int .i64 o2,.int .i64 n2,.int .i64 m2,.slice a2 l2' c2] 24)):=bal (Below.refl _ _) _
   have BF:=hid (btr (bos BWC.out (by omega) SXY.out) BN)
   refine ⟨w10.heap.size,[.mk o0 n0 m0 a0 l0 c0 k0,.mk o1 n1 m1 a1 l1 c1 k1,.mk o2 n2 m2 a2 l2' c2 k2],rfl,rfl,rfl,⟨(HH.out.r.below (hole_steps SXY.out)).fill.below BN,(HH.out.li.step SXY.out (by omega)).below BN,Blk.new w10 _ _,?_,rfl⟩,BF.out⟩
   intro t ht
   rcases List.mem_cons.1 ht with rfl | ht
   ·exact ⟨HT.out.beh BF.out,HZ.out⟩
   rcases List.mem_cons.1 ht with rfl | ht
   ·have z:=K9.out.size
    have e:(2:Nat) ^ (2+1)=8:=by decide
    rw [e] at z
    exact ⟨(K9.out.step SY.out (by first | omega | (show wA.heap.size<wc.heap.size;omega) | (simp;omega))).ok.beh BN,by omega⟩
   ·rw [List.mem_singleton.1 ht]
    exact ⟨OK2.out.beh BN,Nat.le_trans SZ2.out (by decide)⟩
 case rest =>
 obtain ⟨gt,L,rfl,rfl,rfl,hL,hb⟩:=hcut
 have HL:=hid hL;have HBL:=hid hb
 clear hL hb x0 x1 x2 x3 HT2 HSP ST HH HTB BWC HT HZ TI B0 HS BA0 S6 HB1 T1 HBA HRW BB hW
 have hlen:L.length=3:=HL.out.len
 have HMA:=hid fun W'=>mod_any year 6 W' (by decide) (by decide)
 have HMB:=hid fun W'=>mod_any day 40 W' (by decide) (by decide)
 obtain ⟨ym,hym⟩:∃ x,modI year 6=x:=⟨_,rfl⟩
 obtain ⟨dm,hdm⟩:∃ x,modI day 40=x:=⟨_,rfl⟩
 rw [hym] at HMA
 rw [hdm] at HMB
 clear hym hdm
 go_wp2
 go_loopw [88] (fun v wr=>∃ k:Nat,k≤3∧v=.int .i64 k∧Below wc.heap.size wc wr) (fun v _=>4 - (intOf v).toNat)
 case atStart=>exact ⟨0,by decide,rfl,Below.refl _ _⟩
 case round =>
 obtain ⟨k,hk,rfl,hb⟩:=hrel
 have HB:=hid hb
 clear hb
 by_cases hlt:k<3
 case neg =>
  have BW:=hid (btr HBL.out HB.out)
  clear HL HMA HMB
  obtain rfl:k=3:=by omega
  go_wp2_with (go_at_call 10;refine (awake_any _).mono ?_;rintro e w2 ⟨rfl,hb2⟩;have HB2:=hid (btr BW.out hb2);clear hb2)
  go_ret
  exact ⟨rfl,HB2.out⟩
 have hkL:k<L.length:=by omega
 have HR:=hid (HL.out.below HB.out)
 have HRG:Hid (wr.rangeAt gt (k * 4) (encTm L[k])):=blk_rng HR.out.tm hkL
 have HTO:=hid (HR.out.ok L[k] (List.getElem_mem hkL)).1
 have HSM:=hid fun W' (hW':Below wr.heap.size wr W')=>small_any L[k] 20 (by decide) W' (HTO.out.beh hW') (HR.out.ok L[k] (List.getElem_mem hkL)).2
 obtain ⟨t,ht⟩:∃ t,L[k]=t:=⟨_,rfl⟩
 rw [ht] at HRG HTO HSM
 obtain ⟨o1,n1,m1,a1,l1,c1,k1⟩:=t
 have HZZ:=hid (HR.out.ok L[k] (List.getElem_mem hkL)).2
 rw [ht] at HZZ
 clear ht
 dsimp only [encTm] at HRG HSM
 by_cases hsm:(TmM.mk o1 n1 m1 a1 l1 c1 k1).pl.size≤20
 case neg =>
  have HS:Hid (∀ W',Below wr.heap.size wr W'→Calls Tryz.prog 9 #[.agg #[.int .i64 o1,.int .i64 n1,.int .i64 m1,.slice a1 l1 c1],.int .i64 20] W' fun e w'=>e=.returned (.bool false)∧Below W'.heap.size W' w'):=fun W' hW'=>(HSM.out W' hW').mono fun e w' h=>⟨by rw [h.1,decide_eq_false hsm],h.2⟩
  clear hsm HSM HTO HZZ HR
  go_wp2_with (first
   | (refine wpList_load_mid rfl 24 (.tmp 90) rfl gt (k * 4) (by simp [go_sem]) [.int .i64 o1,.int .i64 n1,.int .i64 m1,.slice a1 l1 c1] _ HRG.out Tryz.underlying24 rfl tmInfo ?_)
   | (refine st_new rfl 24 (.tmp 17) (.tmp 91) rfl #[.int .i64 o1,.int .i64 n1,.int .i64 m1,.slice a1 l1 c1] _ _ rfl rfl tmInfo rfl (tm_one _ _ _ _ _ _) ?_)
   | (refine wpList_load_row rfl 24 (.tmp 17) rfl wr.heap.size rfl _ #[.int .i64 o1,.int .i64 n1,.int .i64 m1,.slice a1 l1 c1] _ _ (Blk.new _ _ _) Tryz.underlying24 rfl tmInfo ?_)
   | (go_at_call 9;refine (HS.out _ Bw.out).mono ?_;rintro e v1 ⟨rfl,h1⟩;have V1:Hid (Below wr.heap.size wr v1):=btr Bw.out h1;clear h1))
  go_roundw
  case rel=>exact ⟨k+1,by omega,by go_num,btr HB.out V1.out⟩
  case measure=>simp [intOf];omega
 have HS:Hid (∀ W',Below wr.heap.size wr W'→Calls Tryz.prog 9 #[.agg #[.int .i64 o1,.int .i64 n1,.int .i64 m1,.slice a1 l1 c1],.int .i64 20] W' fun e w'=>e=.returned (.bool true)∧Below W'.heap.size W' w'):=fun W' hW'=>(HSM.out W' hW').mono fun e w' h=>⟨by rw [h.1,decide_eq_true hsm],h.2⟩
 clear hsm HSM
 go_wp2_with (first
  | (refine wpList_load_mid rfl 24 (.tmp 90) rfl gt (k * 4) (by simp [go_sem]) [.int .i64 o1,.int .i64 n1,.int .i64 m1,.slice a1 l1 c1] _ HRG.out Tryz.underlying24 rfl tmInfo ?_)
  | (refine st_new rfl 24 (.tmp 17) (.tmp 91) rfl #[.int .i64 o1,.int .i64 n1,.int .i64 m1,.slice a1 l1 c1] _ _ rfl rfl tmInfo rfl (tm_one _ _ _ _ _ _) ?_)
  | (refine wpList_load_row rfl 24 (.tmp 17) rfl wr.heap.size rfl _ #[.int .i64 o1,.int .i64 n1,.int .i64 m1,.slice a1 l1 c1] _ _ (Blk.new _ _ _) Tryz.underlying24 rfl tmInfo ?_)
  | (go_at_call 9;refine (HS.out _ Bw.out).mono ?_;rintro e v1 ⟨rfl,h1⟩;have V1:Hid (Below wr.heap.size wr v1):=btr Bw.out h1;have BT1:Hid (Blk v1 wr.heap.size 24 #[.int .i64 o1,.int .i64 n1,.int .i64 m1,.slice a1 l1 c1]):=(Blk.new wr _ _).below h1;clear h1)
  | (go_at_call 17;first | ((with_reducible refine (HMA.out _).mono ?_);rintro e v2 ⟨rfl,rfl⟩) | ((with_reducible refine (HMB.out _).mono ?_);rintro e v3 ⟨rfl,rfl⟩))
  | (refine bs_two elAr (by decide) rfl (.tmp 97) (.tmp 102) rfl [.int .i64 year,.int .i64 day] [.int .i64 ym,.int .i64 dm] rfl rfl rfl rfl ?_))
 obtain ⟨W7,hW7⟩:∃ W7,v3.alloc (.cells #[.int .i64 year,.int .i64 day,.int .i64 ym,.int .i64 dm] 52)=W7:=⟨_,rfl⟩
 have Q7:Hid (Below v3.heap.size v3 W7):=by show Below _ _ _;rw [← hW7];exact Bw.out
 have BA7:Hid (Blk W7 v3.heap.size 52 #[.int .i64 year,.int .i64 day,.int .i64 ym,.int .i64 dm]):=by show Blk _ _ _ _;rw [← hW7];exact Blk.new _ _ _
 have BT7:=hid (BT1.out.below Q7.out)
 have V17:=hid (btr V1.out Q7.out)
 have HR7:=hid (HR.out.below V17.out)
 have HTO7:=hid (HTO.out.beh V17.out)
 rw [hW7]
 obtain ⟨gT,hgT⟩:∃ gT,wr.heap.size=gT:=⟨_,rfl⟩
 rw [hgT] at BT7 ⊢
 clear hgT
 clear hW7 HTO HR HS HRG HMA HMB V1 BT1 Q7
 have HEV:Hid (∀ yj dj X,Below W7.heap.size W7 X→Calls Tryz.prog 20 #[.agg #[.int .i64 o1,.int .i64 n1,.int .i64 m1,.slice a1 l1 c1],.agg #[.int .i64 0,.slice ra rn rcc,.int .i64 crop,.int .i64 0],.int .i64 yj,.slice ca' cn' cc',.slice ha hn hc,.slice za zn zc,.int .i64 dj] X (EvQ X (kwP ⟨ra,rn,rcc,rl⟩ crop ⟨ca',cn',cc',cl'⟩ ⟨ha,hn,hc,hl'⟩ ⟨za,zn,zc,zl'⟩ yj dj) (TmM.mk o1 n1 m1 a1 l1 c1 k1).pl)):=fun yj dj X hX=>(peval_anyV (kwP ⟨ra,rn,rcc,rl⟩ crop ⟨ca',cn',cc',cl'⟩ ⟨ha,hn,hc,hl'⟩ ⟨za,zn,zc,zl'⟩ yj dj) (TmM.mk o1 n1 m1 a1 l1 c1 k1) X ((HR7.out.r.below hX).re crop yj dj).g (HTO7.out.beh hX) ((HR7.out.r.below hX).re crop yj dj).rb).mono fun e w' h=>h.q
 have HRV:Hid (∀ yj dj X,Below W7.heap.size W7 X→Calls Tryz.prog 21 #[.agg #[.int .i64 o1,.int .i64 n1,.int .i64 m1,.slice a1 l1 c1],.agg #[.int .i64 0,.slice ra rn rcc,.int .i64 crop,.int .i64 0],.int .i64 yj,.slice ca' cn' cc',.slice ha hn hc,.slice za zn zc,.int .i64 dj] X (EvQ X (kwP ⟨ra,rn,rcc,rl⟩ crop ⟨ca',cn',cc',cl'⟩ ⟨ha,hn,hc,hl'⟩ ⟨za,zn,zc,zl'⟩ yj dj) (TmM.mk o1 n1 m1 a1 l1 c1 k1).pl)):=fun yj dj X hX=>(r16eval_any (kwP ⟨ra,rn,rcc,rl⟩ crop ⟨ca',cn',cc',cl'⟩ ⟨ha,hn,hc,hl'⟩ ⟨za,zn,zc,zl'⟩ yj dj) (TmM.mk o1 n1 m1 a1 l1 c1 k1) X ((HR7.out.r.below hX).re crop yj dj) (HTO7.out.beh hX) HZZ.out).mono fun e w' h=>h.q
 have BL7:=hid HR7.out.li
 clear HR7 HTO7 HZZ
 go_loopw [105] (fun v wq=>∃ j:Nat,j≤2∧v=.int .i64 j∧Below W7.heap.size W7 wq) (fun v _=>3 - (intOf v).toNat)
 case atStart=>exact ⟨0,by decide,rfl,Below.refl _ _⟩
 case round =>
 obtain ⟨j,hj,rfl,hb⟩:=hrel
 have HQ:=hid hb
 clear hb
 by_cases hjl:j<2
 case neg =>
  obtain rfl:j=2:=by omega
  clear HEV HRV BL7 BT7 BA7
  go_wp2
  go_roundw
  case rel=>exact ⟨k+1,by omega,by go_num,btr HB.out (btr V17.out HQ.out)⟩
  case measure=>simp [intOf];omega
 obtain ⟨yj,dj,hrg⟩:∃ yj dj:Int,W7.rangeAt v3.heap.size (j * 2) [.int .i64 yj,.int .i64 dj]:=by
  obtain rfl | rfl:j=0∨j=1:=by omega
  ·refine ⟨year,day,fun i v hi=>?_⟩
   rcases i with _ | _ | i
   ·cases hi;exact BA7.out.cell 0
   ·cases hi;exact BA7.out.cell 1
   ·simp at hi
  ·refine ⟨ym,dm,fun i v hi=>?_⟩
   rcases i with _ | _ | i
   ·cases hi;exact BA7.out.cell 2
   ·cases hi;exact BA7.out.cell 3
   ·simp at hi
 have HRQ:=hid (rangeAt_below hrg HQ.out)
 have BTQ:=hid (BT7.out.below HQ.out);have BLQ:=hid (BL7.out.below HQ.out)
 have HE1:=hid fun X (hX:Below wr.heap.size wr X)=>HEV.out yj dj X (btr HQ.out hX)
 have HE2:=hid fun X (hX:Below wr.heap.size wr X)=>HRV.out yj dj X (btr HQ.out hX)
 obtain ⟨p,hp⟩:∃ p,(kwP ⟨ra,rn,rcc,rl⟩ crop ⟨ca',cn',cc',cl'⟩ ⟨ha,hn,hc,hl'⟩ ⟨za,zn,zc,zl'⟩ yj dj)=p:=⟨_,rfl⟩
 obtain ⟨tp,htp⟩:∃ tp,(TmM.mk o1 n1 m1 a1 l1 c1 k1).pl=tp:=⟨_,rfl⟩
 obtain ⟨er,her⟩:∃ er,evErr p tp=er:=⟨_,rfl⟩
 rw [hp,htp] at HE1 HE2
 unfold EvQ at HE1 HE2
 rw [her] at HE1 HE2
 clear hp htp her HEV HRV hrg BA7 BL7 BT7
 go_wp2_with (first
  | (refine wpList_load_mid rfl 52 (.tmp 107) rfl v3.heap.size (j * 2) (by simp [go_sem]) [.int .i64 yj,.int .i64 dj] _ HRQ.out Tryz.underlying52 rfl arInfo ?_)
  | (refine st_new rfl 52 (.tmp 19) (.tmp 108) rfl #[.int .i64 yj,.int .i64 dj] _ _ rfl rfl arInfo rfl (ar_one _ _) ?_;obtain ⟨X1,hX1⟩:∃ X1,wr.alloc (.cells #[.int .i64 yj,.int .i64 dj] 52)=X1:=⟨_,rfl⟩;have QB1:Hid (Below wr.heap.size wr X1):=(by show Below _ _ _;rw [← hX1];exact Bw.out);have BY1:Hid (Blk X1 wr.heap.size 52 #[.int .i64 yj,.int .i64 dj]):=(by show Blk _ _ _ _;rw [← hX1];exact Blk.new _ _ _);have f0:X1.cell? ⟨wr.heap.size,0,none⟩=some (.int .i64 yj):=BY1.out.cell 0;have f1:X1.cell? ⟨wr.heap.size,1,none⟩=some (.int .i64 dj):=BY1.out.cell 1;have BTX1:=hid (BTQ.out.below QB1.out);have BLX1:=hid (BLQ.out.below QB1.out);rw [hX1];clear hX1)
  | (refine wpList_load_row rfl 24 (.tmp 17) rfl gT rfl _ #[.int .i64 o1,.int .i64 n1,.int .i64 m1,.slice a1 l1 c1] _ _ BTX1.out Tryz.underlying24 rfl tmInfo ?_)
  | (refine wpList_load_row rfl 42 (.tmp 15) rfl w6.heap.size rfl _ #[.int .i64 0,.slice ra rn rcc,.int .i64 crop,.int .i64 0] _ _ BLX1.out Tryz.underlying42 rfl lineInfo ?_)
  | (go_at_call 20;(with_reducible refine (HE1.out X1 QB1.out).mono ?_);rintro e v5 ⟨⟨y1a,y1n,y1c,y1l⟩,⟨n1a,n1n,n1c,n1l⟩,⟨o1a,o1n,o1c,o1l⟩,rfl,s1,s2,s3,s4,h5⟩;have S1:=hid s1;have S2:=hid s2;have S3:=hid s3;have G1:=hid s4;have V5:=hid (btr QB1.out h5);have g0:=bc1 h5 f0;have g1:=bc1 h5 f1;clear s1 s2 s3 s4 h5 f0 f1)
  | (refine st_new rfl 55 (.tmp 20) (.tmp 120) rfl #[.slice y1a y1n y1c,.slice n1a n1n n1c,.slice o1a o1n o1c] _ _ rfl rfl trInfo rfl (sq_one _ _ _ rfl rfl rfl) ?_;obtain ⟨X2,hX2⟩:∃ X2,v5.alloc (.cells #[.slice y1a y1n y1c,.slice n1a n1n n1c,.slice o1a o1n o1c] 55)=X2:=⟨_,rfl⟩;have Q2:Hid (Below v5.heap.size v5 X2):=(by show Below _ _ _;rw [← hX2];exact Bw.out);have T2:Hid (Blk X2 v5.heap.size 55 #[.slice y1a y1n y1c,.slice n1a n1n n1c,.slice o1a o1n o1c]):=(by show Blk _ _ _ _;rw [← hX2];exact Blk.new _ _ _);have QB2:=hid (btr V5.out Q2.out);have q0:=bc1 Q2.out g0;have q1:=bc1 Q2.out g1;have R1:=hid (S1.out.below Q2.out);have R2:=hid (S2.out.below Q2.out);have R3:=hid (S3.out.below Q2.out);have BTX2:=hid (BTQ.out.below QB2.out);have BLX2:=hid (BLQ.out.below QB2.out);rw [hX2];clear hX2 g0 g1 S1 S2 S3)
  | (refine wpList_load_row rfl 24 (.tmp 17) rfl gT rfl _ #[.int .i64 o1,.int .i64 n1,.int .i64 m1,.slice a1 l1 c1] _ _ BTX2.out Tryz.underlying24 rfl tmInfo ?_)
  | (refine wpList_load_row rfl 42 (.tmp 15) rfl w6.heap.size rfl _ #[.int .i64 0,.slice ra rn rcc,.int .i64 crop,.int .i64 0] _ _ BLX2.out Tryz.underlying42 rfl lineInfo ?_)
  | (go_at_call 21;(with_reducible refine (HE2.out X2 QB2.out).mono ?_);rintro e v6 ⟨⟨y2a,y2n,y2c,y2l⟩,⟨n2a,n2n,n2c,n2l⟩,⟨o2a,o2n,o2c,o2l⟩,rfl,s1,s2,s3,s4,h5⟩;have S4:=hid s1;have S5:=hid s2;have S6:=hid s3;have G2:=hid s4;have V26:=hid h5;clear s1 s2 s3 s4 h5 q0 q1)
  | (refine st_new rfl 55 (.tmp 22) (.tmp 133) rfl #[.slice y2a y2n y2c,.slice n2a n2n n2c,.slice o2a o2n o2c] _ _ rfl rfl trInfo rfl (sq_one _ _ _ rfl rfl rfl) ?_;obtain ⟨X3,hX3⟩:∃ X3,v6.alloc (.cells #[.slice y2a y2n y2c,.slice n2a n2n n2c,.slice o2a o2n o2c] 55)=X3:=⟨_,rfl⟩;have Q3:Hid (Below v6.heap.size v6 X3):=(by show Below _ _ _;rw [← hX3];exact Bw.out);have T6:Hid (Blk X3 v6.heap.size 55 #[.slice y2a y2n y2c,.slice n2a n2n n2c,.slice o2a o2n o2c]):=(by show Blk _ _ _ _;rw [← hX3];exact Blk.new _ _ _);have Q23:=hid (btr V26.out Q3.out);have T5:=hid (T2.out.below Q23.out);have QB3:=hid (btr QB2.out Q23.out);have HTR:=hid (truths_any y1a n1a o1a y2a n2a o2a y1n y1c n1n n1c o1n o1c y2n y2c n2n n2c o2n o2c y1l n1l o1l y2l n2l o2l X3 (R1.out.below Q23.out) (R2.out.below Q23.out) (R3.out.below Q23.out) (S4.out.below Q3.out) (S5.out.below Q3.out) (S6.out.below Q3.out));rw [hX3];clear hX3)
  | (refine wpList_load_row rfl 55 (.tmp 20) rfl v5.heap.size rfl _ #[.slice y1a y1n y1c,.slice n1a n1n n1c,.slice o1a o1n o1c] _ _ T5.out Tryz.underlying55 rfl trInfo ?_)
  | (refine wpList_load_row rfl 55 (.tmp 22) rfl v6.heap.size rfl _ #[.slice y2a y2n y2c,.slice n2a n2n n2c,.slice o2a o2n o2c] _ _ T6.out Tryz.underlying55 rfl trInfo ?_)
  | (go_at_call 22;(with_reducible refine HTR.out.mono ?_);rintro e v7 ⟨b,rfl,hb1,hb2⟩;obtain rfl:b=true:=hb1.2 (EvG.uniq G1.out G2.out);have V7:=hid (btr QB3.out hb2);clear hb1 hb2))
 go_roundw
 case rel=>exact ⟨j+1,by omega,by go_num,btr HQ.out V7.out⟩
 case measure=>simp [intOf];omega
end Go.Proofs.YtancajcelmhnkaaGreatDoor
