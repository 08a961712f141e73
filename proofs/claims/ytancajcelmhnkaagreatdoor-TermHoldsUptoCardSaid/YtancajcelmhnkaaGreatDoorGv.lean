/- term.right and term.Check at any term. -/
import Derived.Test.YtancajcelmhnkaaGreatDoorRightb
import Derived.Test.YtancajcelmhnkaaGreatDoorGr
import Derived.Test.YtancajcelmhnkaaGreatDoorHi
import Derived.Test.YtancajcelmhnkaaGreatDoorGs
set_option maxRecDepth 100000
set_option maxHeartbeats 4000000
namespace Go.Proofs.YtancajcelmhnkaaGreatDoor
open Go.RowKit
set_option linter.unusedVariables false
set_option linter.unusedSimpArgs false
theorem right_bad (op num more:Int) (a:Option Addr) (n c:Nat) (d:Int) (w:World) (hb:op<1∨11<op∨d=0) :
  Calls Tryz.prog 78 #[.agg #[.int .i64 op,.int .i64 num,.int .i64 more,.slice a n c],.int .i64 d] w fun e w'=>e=.returned (.bool false)∧Below w.heap.size w w':=by
 have A:=RtW.start w op num more a n c d
 obtain ⟨W,hW⟩:∃ W,(w.alloc (.cells #[.int .i64 op,.int .i64 num,.int .i64 more,.slice a n c] 24)).alloc (.cells #[.int .i64 d] 3)=W:=⟨_,rfl⟩
 rw [hW] at A
 have q0:W.cell? ⟨w.heap.size,0,none⟩=some (.int .i64 op):=A.tm.cell 0
 have HA:=hid A
 have HLM:=hid fun W=>limits_any op W
 have HKL:=hid fun W=>kids_any op W
 obtain ⟨⟨l1,l2,l3⟩,hl⟩:∃ l,lims op=l:=⟨_,rfl⟩
 obtain ⟨⟨k1,k2⟩,hk⟩:∃ l,kidl op=l:=⟨_,rfl⟩
 rw [hl] at HLM
 rw [hk] at HKL
 dsimp only at HLM HKL
 clear A hl hk
 by_cases h1:op<1
 ·go_enter Tryz.func78,Tryz.ntmps78
  go_wp2_with (first
   | (go_at_call 118;refine (HLM.out _).mono ?_;rintro e w1 ⟨rfl,hb1⟩;have A1:=hid (HA.out.beh hb1);have p0:w1.cell? ⟨w.heap.size,0,none⟩=some (.int .i64 op):=A1.out.tm.cell 0)
   | (go_at_call 119;refine (HKL.out _).mono ?_;rintro e w2 ⟨rfl,hb2⟩;have A2:=hid (A1.out.beh hb2);have p0:w2.cell? ⟨w.heap.size,0,none⟩=some (.int .i64 op):=A2.out.tm.cell 0;have pd:w2.cell? ⟨w.heap.size+1,0,none⟩=some (.int .i64 d):=A2.out.dp.cell 0))
  go_ret
  exact ⟨rfl,A2.out.below⟩
 ·by_cases h2:11<op
  ·go_enter Tryz.func78,Tryz.ntmps78
   go_wp2_with (first
    | (go_at_call 118;refine (HLM.out _).mono ?_;rintro e w1 ⟨rfl,hb1⟩;have A1:=hid (HA.out.beh hb1);have p0:w1.cell? ⟨w.heap.size,0,none⟩=some (.int .i64 op):=A1.out.tm.cell 0)
    | (go_at_call 119;refine (HKL.out _).mono ?_;rintro e w2 ⟨rfl,hb2⟩;have A2:=hid (A1.out.beh hb2);have p0:w2.cell? ⟨w.heap.size,0,none⟩=some (.int .i64 op):=A2.out.tm.cell 0;have pd:w2.cell? ⟨w.heap.size+1,0,none⟩=some (.int .i64 d):=A2.out.dp.cell 0))
   go_ret
   exact ⟨rfl,A2.out.below⟩
  ·obtain rfl:d=0:=by omega
   clear hb
   go_enter Tryz.func78,Tryz.ntmps78
   go_wp2_with (first
    | (go_at_call 118;refine (HLM.out _).mono ?_;rintro e w1 ⟨rfl,hb1⟩;have A1:=hid (HA.out.beh hb1);have p0:w1.cell? ⟨w.heap.size,0,none⟩=some (.int .i64 op):=A1.out.tm.cell 0)
    | (go_at_call 119;refine (HKL.out _).mono ?_;rintro e w2 ⟨rfl,hb2⟩;have A2:=hid (A1.out.beh hb2);have p0:w2.cell? ⟨w.heap.size,0,none⟩=some (.int .i64 op):=A2.out.tm.cell 0;have pd:w2.cell? ⟨w.heap.size+1,0,none⟩=some (.int .i64 0):=A2.out.dp.cell 0))
   go_ret
   exact ⟨rfl,A2.out.below⟩
theorem right1_any (t:TmM) (bd:Nat) (D:Int) (b:Bool) (w:World) (hB:Blk w bd 3 #[.int .i64 D]) (hD:1≤D∧D≤8)
  (hc:∀ W,Below w.heap.size w W→Calls Tryz.prog 78 #[.agg (encTm t).toArray,.int .i64 (D - 1)] W fun e w'=>e=.returned (.bool b)∧Below W.heap.size W w') :
  Calls Tryz.prog 122 (#[.agg (encTm t).toArray]++#[.pointer (some ⟨bd,0,none⟩)]) w fun e w'=>e=.returned (.bool (!b))∧Below w.heap.size w w':=by
 obtain ⟨op,num,more,a,n,c,kids⟩:=t
 obtain ⟨D1,D2⟩:=hD
 have HC:=hid hc
 have x1:(w.alloc (.cells #[.int .i64 op,.int .i64 num,.int .i64 more,.slice a n c] 24)).cell? ⟨bd,0,none⟩=some (.int .i64 D):=(hB.alloc _).cell 0
 clear hc hB
 show Calls Tryz.prog _ #[.agg #[.int .i64 op,.int .i64 num,.int .i64 more,.slice a n c],.pointer (some ⟨bd,0,none⟩)] w _
 dsimp only [encTm] at HC
 go_enter Tryz.func122,Tryz.ntmps122
 go_wp2_with (first
  | (refine wpList_load_row rfl 24 (.tmp 2) rfl w.heap.size rfl _ #[.int .i64 op,.int .i64 num,.int .i64 more,.slice a n c] _ _ (Blk.new _ _ _) Tryz.underlying24 rfl tmInfo ?_)
  | (go_at_call 78;refine (HC.out _ Bw.out).mono ?_;rintro e w1 ⟨rfl,hb1⟩))
 go_ret
 exact ⟨rfl,btr Bw.out hb1⟩
theorem formB_no {op num more:Int} {n:Nat} (h:op<1∨11<op):formB op num more n=false:=by
 cases hf:formB op num more n with
 | false=>rfl
 | true=>exfalso;unfold formB at hf;rw [Bool.and_eq_true,Bool.and_eq_true] at hf;have h1:=hf.1.1;rw [if_neg (by omega),if_neg (by omega),if_neg (by omega),if_neg (by omega),if_neg (by omega),if_neg (by omega),if_neg (by omega),if_neg (by omega),if_neg (by omega),if_neg (by omega)] at h1;cases h1
theorem right_any (t:TmM):∀ (d:Nat) (w:World),TmOk w t→t.pl.size≤40→d≤8 →
  Calls Tryz.prog 78 #[.agg (encTm t).toArray,.int .i64 d] w fun e w'=>e=.returned (.bool (rightB t.pl d))∧Below w.heap.size w w':=by
 induction t using TmM.ind with
 | h op num more a n c kids ih =>
  intro d w h hs hd
  rw [TmM.pl_mk] at hs ⊢
  rw [Tm.size] at hs
  have hn:n≤39:=by have:=Tm.sizes_len (kids.map TmM.pl);rw [List.length_map,h.len] at this;omega
  show Calls Tryz.prog _ #[.agg #[.int .i64 op,.int .i64 num,.int .i64 more,.slice a n c],.int .i64 d] w _
  cases d with
  | zero =>
   rw [rightB_zero]
   exact right_bad op num more a n c _ w (.inr (.inr rfl))
  | succ d =>
   rw [rightB_mk,List.length_map,h.len]
   have hall:((kids.map TmM.pl).all fun k=>rightB k d) = !(kids.any fun k=>!rightB k.pl d):=by rw [any_not,List.all_map];rfl
   rw [hall]
   have hk:KidsAt w a n c ((d+1:Nat):Int) (kids.any fun k=>!rightB k.pl d):=fun W bd hW hB =>
    cfTm encTm _ _ en_right1 a n c kids (fun k=>!rightB k.pl d) W (h.vw.below hW) h.len h.few (fun x _=>encTm_len x) fun W' hW' x hx=>by
     refine right1_any x bd ((d+1:Nat):Int) (rightB x.pl d) W' (hB.below hW') (by omega) fun W2 hW2=>?_
     have e:((d+1:Nat):Int) - 1=(d:Int):=by omega
     rw [e]
     refine ih x hx d W2 ((h.kid hx).beh (btr (btr hW hW') hW2)) ?_ (by omega)
     have:=Tm.sizes_mem (List.mem_map.2 ⟨x,hx,rfl⟩:x.pl ∈ kids.map TmM.pl)
     omega
   have hd':1≤d+1∧d+1≤8:=by omega
   by_cases h1:op<1∨11<op
   ·rw [formB_no h1]
    exact right_bad op num more a n c _ w (h1.elim .inl fun h=>.inr (.inl h))
   ·have ho:op=1∨op=2∨op=3∨op=4∨op=5∨op=6∨op=7∨op=8∨op=9∨op=10∨op=11:=by omega
    rcases ho with rfl | rfl | rfl | rfl | rfl | rfl | rfl | rfl | rfl | rfl | rfl
    ·exact right_1 num more a n c (d+1) _ w hn hd' hk
    ·exact right_2 num more a n c (d+1) _ w hn hd' hk
    ·exact right_3 num more a n c (d+1) _ w hn hd' hk
    ·exact right_4 num more a n c (d+1) _ w hn hd' hk
    ·exact right_5 num more a n c (d+1) _ w hn hd' hk
    ·exact right_6 num more a n c (d+1) _ w hn hd' hk
    ·exact right_7 num more a n c (d+1) _ w hn hd' hk
    ·exact right_8 num more a n c (d+1) _ w hn hd' hk
    ·exact right_9 num more a n c (d+1) _ w hn hd' hk
    ·exact right_10 num more a n c (d+1) _ w hn hd' hk
    ·exact right_11 num more a n c (d+1) _ w hn hd' hk
def chkT (t:Tm):Int:=if 40<t.size then 1 else if rightB t 8 then 0 else 16
theorem check_any (t:TmM) (w:World) (h:TmOk w t) :
  Calls Tryz.prog 40 #[.agg (encTm t).toArray] w fun e w'=>e=.returned (.int .i64 (chkT t.pl))∧Below w.heap.size w w':=by
 have HC:=hid fun W (hW:Below w.heap.size w W)=>count_any t 40 W (h.beh hW) (by omega)
 have HR:=hid fun W (hW:Below w.heap.size w W) (hs:t.pl.size≤40)=>right_any t 8 W (h.beh hW) hs (by omega)
 clear h
 obtain ⟨op,num,more,a,n,c,kids⟩:=t
 unfold chkT
 obtain ⟨s,hs⟩:∃ s,(TmM.mk op num more a n c kids).pl.size=s:=⟨_,rfl⟩
 obtain ⟨r,hr⟩:∃ r,rightB (TmM.mk op num more a n c kids).pl 8=r:=⟨_,rfl⟩
 rw [hs,hr] at HR
 rw [hs] at HC
 rw [hs,hr]
 clear hs hr
 dsimp only [encTm] at HC HR
 show Calls Tryz.prog _ #[.agg #[.int .i64 op,.int .i64 num,.int .i64 more,.slice a n c]] w _
 have HC':RowKit.Hid (∀ W,Below w.heap.size w W→Calls Tryz.prog 77 #[.agg #[.int .i64 op,.int .i64 num,.int .i64 more,.slice a n c],.int .i64 40] W fun e w'=>e=.returned (.int .i64 ((min s 41:Nat):Int))∧Below W.heap.size W w'):=HC.out
 by_cases h:40<s
 ·rw [if_pos h]
  have e:min s 41=41:=by omega
  rw [e] at HC'
  go_enter Tryz.func40,Tryz.ntmps40
  go_wp2_with (first
   | (refine wpList_load_row rfl 24 (.tmp 1) rfl w.heap.size rfl _ #[.int .i64 op,.int .i64 num,.int .i64 more,.slice a n c] _ _ (Blk.new _ _ _) Tryz.underlying24 rfl tmInfo ?_)
   | (go_at_call 77;refine (HC'.out _ Bw.out).mono ?_;rintro e w1 ⟨rfl,hb1⟩))
  go_ret
  exact ⟨rfl,btr Bw.out hb1⟩
 ·rw [if_neg h]
  have e:min s 41=s:=by omega
  rw [e] at HC'
  have hs40:s≤40:=by omega
  have HRR:RowKit.Hid (∀ W,Below w.heap.size w W→Calls Tryz.prog 78 #[.agg #[.int .i64 op,.int .i64 num,.int .i64 more,.slice a n c],.int .i64 8] W fun e w'=>e=.returned (.bool r)∧Below W.heap.size W w'):=fun W hW=>HR.out W hW hs40
  have h':¬ (40:Int)<(s:Int):=by omega
  cases r with
  | true =>
   go_enter Tryz.func40,Tryz.ntmps40
   go_wp2_with (first
    | (refine wpList_load_row rfl 24 (.tmp 1) rfl w.heap.size rfl _ #[.int .i64 op,.int .i64 num,.int .i64 more,.slice a n c] _ _ (Blk.new _ _ _) Tryz.underlying24 rfl tmInfo ?_)
    | (refine wpList_load_row rfl 24 (.tmp 1) rfl w.heap.size rfl _ #[.int .i64 op,.int .i64 num,.int .i64 more,.slice a n c] _ _ ((Blk.new _ _ _).below hb1) Tryz.underlying24 rfl tmInfo ?_)
    | (go_at_call 77;refine (HC'.out _ Bw.out).mono ?_;rintro e w1 ⟨rfl,hb1⟩)
    | (go_at_call 78;refine (HRR.out _ (btr Bw.out hb1)).mono ?_;rintro e w2 ⟨rfl,hb2⟩))
   go_ret
   exact ⟨rfl,btr (btr Bw.out hb1) hb2⟩
  | false =>
   go_enter Tryz.func40,Tryz.ntmps40
   go_wp2_with (first
    | (refine wpList_load_row rfl 24 (.tmp 1) rfl w.heap.size rfl _ #[.int .i64 op,.int .i64 num,.int .i64 more,.slice a n c] _ _ (Blk.new _ _ _) Tryz.underlying24 rfl tmInfo ?_)
    | (refine wpList_load_row rfl 24 (.tmp 1) rfl w.heap.size rfl _ #[.int .i64 op,.int .i64 num,.int .i64 more,.slice a n c] _ _ ((Blk.new _ _ _).below hb1) Tryz.underlying24 rfl tmInfo ?_)
    | (go_at_call 77;refine (HC'.out _ Bw.out).mono ?_;rintro e w1 ⟨rfl,hb1⟩)
    | (go_at_call 78;refine (HRR.out _ (btr Bw.out hb1)).mono ?_;rintro e w2 ⟨rfl,hb2⟩))
   go_ret
   exact ⟨rfl,btr (btr Bw.out hb1) hb2⟩
end Go.Proofs.YtancajcelmhnkaaGreatDoor
namespace Go.Proofs.YtancajcelmhnkaaGreatDoor
open Go.RowKit Go.Sort Go.Shelf
set_option linter.unusedVariables false
set_option linter.unusedSimpArgs false
def wrongB (c:Int) (n:Nat):Bool:=decide (c<0) || decide ((n:Int)≤c)
theorem wrongB_iff (c:Int) (n:Nat):wrongB c n=true↔(c<0∨(n:Int)≤c):=by unfold wrongB;rw [Bool.or_eq_true,decide_eq_true_eq,decide_eq_true_eq]
theorem wrongB_no {c:Int} {n:Nat} (h:wrongB c n=false):0≤c∧c<n:=by
 have:¬ (c<0∨(n:Int)≤c):=fun k=>by rw [(wrongB_iff c n).2 k] at h;cases h
 omega
theorem pchk1_any (c:Int) (bp:Nat) (ca:Option Addr) (cn cc:Nat) (w:World) (h1:w.cell? ⟨bp,1,none⟩=some (.slice ca cn cc)) :
  Calls Tryz.prog 91 #[.int .i64 c,.pointer (some ⟨bp,0,none⟩)] w fun e w'=>e=.returned (.bool (wrongB c cn))∧Below w.heap.size w w':=by
 unfold wrongB
 by_cases k1:c<0
 ·rw [decide_eq_true k1]
  go_enter Tryz.func91,Tryz.ntmps91
  go_wp2
  go_ret
  exact ⟨rfl,Bw.out⟩
 ·rw [decide_eq_false k1]
  go_enter Tryz.func91,Tryz.ntmps91
  go_wp2
  go_ret
  exact ⟨ret_bool (by first | rfl | simp),Bw.out⟩
theorem pchk2_any (r:RcdM) (bt bp:Nat) (ca:Option Addr) (cn cc:Nat) (w:World) (h0:w.cell? ⟨bt,0,none⟩=some (.func (.func 91) #[] #[.pointer (some ⟨bp,0,none⟩)])) (h1:w.cell? ⟨bp,1,none⟩=some (.slice ca cn cc)) :
  Calls Tryz.prog 93 (#[.agg (encRcd r).toArray]++#[.pointer (some ⟨bt,0,none⟩)]) w fun e w'=>e=.returned (.bool (wrongB r.crop cn))∧Below w.heap.size w w':=by
 obtain ⟨y,cr,a,n,c,l⟩:=r
 obtain ⟨W,hW⟩:∃ W,w.alloc (.cells #[.int .i64 y,.int .i64 cr,.slice a n c] 47)=W:=⟨_,rfl⟩
 have BB:RowKit.Hid (Below w.heap.size w W):=by show Below _ _ _;rw [← hW];exact Bw.out
 have BX:RowKit.Hid (Blk W w.heap.size 47 #[.int .i64 y,.int .i64 cr,.slice a n c]):=by show Blk _ _ _ _;rw [← hW];exact Blk.new w _ _
 have x0:=bc1 BB.out h0
 have x1:=bc1 BB.out h1
 have x2:W.cell? ⟨w.heap.size,1,none⟩=some (.int .i64 cr):=BX.out.cell 1
 have HC:=hid (pchk1_any cr bp ca cn cc W x1)
 dsimp only
 obtain ⟨v,hv⟩:∃ v,wrongB cr cn=v:=⟨_,rfl⟩
 rw [hv] at HC ⊢
 clear h0 h1 x1 hv
 show Calls Tryz.prog 93 #[.agg #[.int .i64 y,.int .i64 cr,.slice a n c],.pointer (some ⟨bt,0,none⟩)] w _
 go_enter Tryz.func93,Tryz.ntmps93
 go_wp2_with (go_at_call 91;refine HC.out.mono ?_;rintro e w1 ⟨rfl,hb1⟩)
 go_ret
 exact ⟨rfl,btr BB.out hb1⟩
theorem en_pchk2:Enters 93:=enters_of Tryz.func93 (by kernel_rfl) rfl
structure PlG (w:World) (p:PlM):Prop where
 cr:Rws encCrp w p.cr 40
 hi:Rws encRcd w p.hi 200
 zo:Rws encFtr w p.zo 60
 rc:ScOk2 w p.rc
 cat:CatM p.cr.l
 his:∀ r ∈ p.hi.l,ScOk2 w r.s
 hgood:(∀ r ∈ p.hi.l,wrongB r.crop p.cr.n=false)→HGood (p.hi.l.map RcdM.pl)
 zos:∀ r ∈ p.zo.l,ScOk2 w r.s
 zgood:LGood (p.zo.l.map FtrM.pl)
theorem PlG.below {w w':World} {p:PlM} (h:PlG w p) (hb:Below w.heap.size w w'):PlG w' p :=
 ⟨h.cr.below hb,h.hi.below hb,h.zo.below hb,h.rc.below hb,h.cat,fun r hr=>(h.his r hr).below hb,h.hgood,fun r hr=>(h.zos r hr).below hb,h.zgood⟩
open Classical in
noncomputable def evErr (p:PlM) (t:Tm):Int :=
 if chkT t ≠ 0 then chkT t
 else if ∃ c ∈ p.cr.l,mkB c=false then 14
 else if wrongB p.crop p.cr.n=true∨∃ r ∈ p.hi.l,wrongB r.crop p.cr.n=true then 13
 else if ¬ HSort (p.hi.l.map RcdM.pl) then 3
 else if p.year<0∨100<p.year then 18
 else if ∃ f ∈ p.zo.l.map FtrM.pl,kindOk f.kind=false then 14
 else if ¬ (0≤p.day∧p.day≤36864) then 9
 else if ¬ Vld p.rc.l then 7
 else 0
theorem cchk_if {l:List Crp} {x:Int} (h:CChk l x):(x ≠ 0↔∃ c ∈ l,mkB c=false)∧(x ≠ 0→x=14):=by
 by_cases k:∃ c ∈ l,mkB c=false
 ·have:=h.2 k
  exact ⟨⟨fun _=>k,fun _=>by rw [this];decide⟩,fun _=>this⟩
 ·have:=h.1 fun c hc=>by
   cases e:mkB c with
   | true=>rfl
   | false=>exact absurd ⟨c,hc,e⟩ k
  exact ⟨⟨fun c=>absurd this c,fun c=>absurd c k⟩,fun c=>absurd this c⟩
theorem hchk_if {l:List Rcd} {x:Int} (h:HChk l x):(x ≠ 0↔¬ HSort l)∧(x ≠ 0→x=3):=by
 by_cases k:HSort l
 ·have:=h.1 k
  exact ⟨⟨fun c=>absurd this c,fun c=>absurd k c⟩,fun c=>absurd this c⟩
 ·have:=h.2 k
  exact ⟨⟨fun _=>k,fun _=>by rw [this];decide⟩,fun _=>this⟩
open Classical in
theorem fright_if {l:List Ftr} {d x:Int} (h:FRight l d x):x=if ∃ f ∈ l,kindOk f.kind=false then 14 else if ¬ (0≤d∧d≤36864) then 9 else 0:=by
 by_cases k:∃ f ∈ l,kindOk f.kind=false
 ·rw [if_pos k];exact h.1 k
 ·rw [if_neg k]
  have:=h.2 fun f hf=>by
   cases e:kindOk f.kind with
   | true=>rfl
   | false=>exact absurd ⟨f,hf,e⟩ k
  rw [this]
  by_cases q:0≤d∧d≤36864
  ·rw [if_pos q,if_neg (Classical.not_not.2 q)]
  ·rw [if_neg q,if_pos q]
def evF (x1 x2:Int) (b3:Bool) (x4 y x7:Int) (b8:Bool):Int :=
 if x1 ≠ 0 then x1 else if x2 ≠ 0 then x2 else if b3=true then 13 else if x4 ≠ 0 then x4 else if y<0∨100<y then 18 else if x7 ≠ 0 then x7 else if b8=true then 0 else 7
theorem evF_err {p:PlM} {t:Tm} {x2 x4 x7:Int} {b3 b8:Bool} (h2:CChk p.cr.l x2) (h3:b3=true↔(wrongB p.crop p.cr.n=true∨∃ r ∈ p.hi.l,wrongB r.crop p.cr.n=true)) (h4:b3=false→HChk (p.hi.l.map RcdM.pl) x4) (h7:FRight (p.zo.l.map FtrM.pl) p.day x7) (h8:b8=true↔Vld p.rc.l) :
  evF (chkT t) x2 b3 x4 p.year x7 b8=evErr p t:=by
 unfold evF evErr
 by_cases k1:chkT t ≠ 0
 ·rw [if_pos k1,if_pos k1]
 rw [if_neg k1,if_neg k1]
 have c2:=cchk_if h2
 by_cases k2:x2 ≠ 0
 ·rw [if_pos k2,if_pos (c2.1.1 k2)];exact c2.2 k2
 rw [if_neg k2,if_neg (fun h=>k2 (c2.1.2 h))]
 cases b3 with
 | true=>rw [if_pos rfl,if_pos (h3.1 rfl)]
 | false =>
  rw [if_neg (show ¬ (false=true) by decide),if_neg (show ¬ (wrongB p.crop p.cr.n=true∨∃ r ∈ p.hi.l,wrongB r.crop p.cr.n=true) from fun h=>by have:=h3.2 h;cases this)]
  have c4:=hchk_if (h4 rfl)
  by_cases k4:x4 ≠ 0
  ·rw [if_pos k4,if_pos (c4.1.1 k4)];exact c4.2 k4
  rw [if_neg k4,if_neg (fun h=>k4 (c4.1.2 h))]
  by_cases k5:p.year<0∨100<p.year
  ·rw [if_pos k5,if_pos k5]
  rw [if_neg k5,if_neg k5]
  have c7:=fright_if h7
  by_cases k6:∃ f ∈ p.zo.l.map FtrM.pl,kindOk f.kind=false
  ·rw [if_pos k6] at c7 ⊢
   rw [c7,if_pos (by decide)]
  ·rw [if_neg k6] at c7 ⊢
   by_cases k7:¬ (0≤p.day∧p.day≤36864)
   ·rw [if_pos k7] at c7 ⊢
    rw [c7,if_pos (by decide)]
   ·rw [if_neg k7] at c7 ⊢
    rw [c7,if_neg (by decide)]
    by_cases k8:Vld p.rc.l
    ·rw [if_pos (h8.2 k8),if_neg (Classical.not_not.2 k8)]
    ·rw [if_neg (fun h=>k8 (h8.1 h)),if_pos k8]
end Go.Proofs.YtancajcelmhnkaaGreatDoor
