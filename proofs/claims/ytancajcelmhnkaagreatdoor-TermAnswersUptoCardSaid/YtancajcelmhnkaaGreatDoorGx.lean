/- place.check: the first error of what a term is evaluated with. -/
import Derived.Test.YtancajcelmhnkaaGreatDoorGr
import Derived.Test.YtancajcelmhnkaaGreatDoorHi
import Derived.Test.YtancajcelmhnkaaGreatDoorGs
import Derived.Test.YtancajcelmhnkaaGreatDoorGv
import Derived.Laws.EntriesVeiled
set_option maxRecDepth 100000
set_option maxHeartbeats 8000000
namespace Go.Proofs.YtancajcelmhnkaaGreatDoor
open Go.RowKit Go.Sort Go.Shelf
set_option linter.unusedVariables false
set_option linter.unusedSimpArgs false
def wrongB (c:Int) (n:Nat):Bool:=decide (c<0) || decide ((n:Int)≤c)
theorem wrongB_iff (c:Int) (n:Nat):wrongB c n=true↔(c<0∨(n:Int)≤c):=by unfold wrongB;rw [Bool.or_eq_true,decide_eq_true_eq,decide_eq_true_eq]
theorem wrongB_no {c:Int} {n:Nat} (h:wrongB c n=false):0≤c∧c<n:=by
 have:¬ (c<0∨(n:Int)≤c):=fun k=>by rw [(wrongB_iff c n).2 k] at h;cases h
 omega
theorem pchk1_any (c:Int) (bp:Nat) (ca:Option Addr) (cn cc:Nat) (w:World) (h1:w.cell? ⟨bp,1,none⟩=some (.slice ca cn cc)) :
  Calls Tryz.prog 91 #[.int .i64 c,.pointer (some ⟨bp,0,none⟩)] w fun e w'=>e=.returned (.bool (wrongB c cn))∧Below w.heap.size w w':=by
 unfold wrongB
 by_cases k1:c<0
 ·rw [decide_eq_true k1]
  go_enter Tryz.func91,Tryz.ntmps91
  go_wp2
  go_ret
  exact ⟨rfl,Bw.out⟩
 ·rw [decide_eq_false k1]
  go_enter Tryz.func91,Tryz.ntmps91
  go_wp2
  go_ret
  exact ⟨ret_bool (by first | rfl | simp),Bw.out⟩
theorem pchk2_any (r:RcdM) (bt bp:Nat) (ca:Option Addr) (cn cc:Nat) (w:World) (h0:w.cell? ⟨bt,0,none⟩=some (.func (.func 91) #[] #[.pointer (some ⟨bp,0,none⟩)])) (h1:w.cell? ⟨bp,1,none⟩=some (.slice ca cn cc)) :
  Calls Tryz.prog 93 (#[.agg (encRcd r).toArray]++#[.pointer (some ⟨bt,0,none⟩)]) w fun e w'=>e=.returned (.bool (wrongB r.crop cn))∧Below w.heap.size w w':=by
 obtain ⟨y,cr,a,n,c,l⟩:=r
 obtain ⟨W,hW⟩:∃ W,w.alloc (.cells #[.int .i64 y,.int .i64 cr,.slice a n c] 47)=W:=⟨_,rfl⟩
 have BB:RowKit.Hid (Below w.heap.size w W):=by show Below _ _ _;rw [← hW];exact Bw.out
 have BX:RowKit.Hid (Blk W w.heap.size 47 #[.int .i64 y,.int .i64 cr,.slice a n c]):=by show Blk _ _ _ _;rw [← hW];exact Blk.new w _ _
 have x0:=bc1 BB.out h0
 have x1:=bc1 BB.out h1
 have x2:W.cell? ⟨w.heap.size,1,none⟩=some (.int .i64 cr):=BX.out.cell 1
 have HC:=hid (pchk1_any cr bp ca cn cc W x1)
 dsimp only
 obtain ⟨v,hv⟩:∃ v,wrongB cr cn=v:=⟨_,rfl⟩
 rw [hv] at HC ⊢
 clear h0 h1 x1 hv
 show Calls Tryz.prog 93 #[.agg #[.int .i64 y,.int .i64 cr,.slice a n c],.pointer (some ⟨bt,0,none⟩)] w _
 go_enter Tryz.func93,Tryz.ntmps93
 go_wp2_with (go_at_call 91;refine HC.out.mono ?_;rintro e w1 ⟨rfl,hb1⟩)
 go_ret
 exact ⟨rfl,btr BB.out hb1⟩
theorem en_pchk2:Enters 93:=enters_of Tryz.func93 (by kernel_rfl) rfl
structure PlG (w:World) (p:PlM):Prop where
 cr:Rws encCrp w p.cr 40
 hi:Rws encRcd w p.hi 200
 zo:Rws encFtr w p.zo 60
 rc:ScOk2 w p.rc
 cat:CatM p.cr.l
 his:∀ r ∈ p.hi.l,ScOk2 w r.s
 hgood:(∀ r ∈ p.hi.l,wrongB r.crop p.cr.n=false)→HGood (p.hi.l.map RcdM.pl)
 zos:∀ r ∈ p.zo.l,ScOk2 w r.s
 zgood:LGood (p.zo.l.map FtrM.pl)
theorem PlG.below {w w':World} {p:PlM} (h:PlG w p) (hb:Below w.heap.size w w'):PlG w' p :=
 ⟨h.cr.below hb,h.hi.below hb,h.zo.below hb,h.rc.below hb,h.cat,fun r hr=>(h.his r hr).below hb,h.hgood,fun r hr=>(h.zos r hr).below hb,h.zgood⟩
open Classical in
noncomputable def evErr (p:PlM) (t:Tm):Int :=
 if chkT t ≠ 0 then chkT t
 else if ∃ c ∈ p.cr.l,mkB c=false then 14
 else if wrongB p.crop p.cr.n=true∨∃ r ∈ p.hi.l,wrongB r.crop p.cr.n=true then 13
 else if ¬ HSort (p.hi.l.map RcdM.pl) then 3
 else if p.year<0∨100<p.year then 18
 else if ∃ f ∈ p.zo.l.map FtrM.pl,kindOk f.kind=false then 14
 else if ¬ (0≤p.day∧p.day≤36864) then 9
 else if ¬ Vld p.rc.l then 7
 else 0
theorem cchk_if {l:List Crp} {x:Int} (h:CChk l x):(x ≠ 0↔∃ c ∈ l,mkB c=false)∧(x ≠ 0→x=14):=by
 by_cases k:∃ c ∈ l,mkB c=false
 ·have:=h.2 k
  exact ⟨⟨fun _=>k,fun _=>by rw [this];decide⟩,fun _=>this⟩
 ·have:=h.1 fun c hc=>by
   cases e:mkB c with
   | true=>rfl
   | false=>exact absurd ⟨c,hc,e⟩ k
  exact ⟨⟨fun c=>absurd this c,fun c=>absurd c k⟩,fun c=>absurd this c⟩
theorem hchk_if {l:List Rcd} {x:Int} (h:HChk l x):(x ≠ 0↔¬ HSort l)∧(x ≠ 0→x=3):=by
 by_cases k:HSort l
 ·have:=h.1 k
  exact ⟨⟨fun c=>absurd this c,fun c=>absurd k c⟩,fun c=>absurd this c⟩
 ·have:=h.2 k
  exact ⟨⟨fun _=>k,fun _=>by rw [this];decide⟩,fun _=>this⟩
open Classical in
theorem fright_if {l:List Ftr} {d x:Int} (h:FRight l d x):x=if ∃ f ∈ l,kindOk f.kind=false then 14 else if ¬ (0≤d∧d≤36864) then 9 else 0:=by
 by_cases k:∃ f ∈ l,kindOk f.kind=false
 ·rw [if_pos k];exact h.1 k
 ·rw [if_neg k]
  have:=h.2 fun f hf=>by
   cases e:kindOk f.kind with
   | true=>rfl
   | false=>exact absurd ⟨f,hf,e⟩ k
  rw [this]
  by_cases q:0≤d∧d≤36864
  ·rw [if_pos q,if_neg (Classical.not_not.2 q)]
  ·rw [if_neg q,if_pos q]
def evF (x1 x2:Int) (b3:Bool) (x4 y x7:Int) (b8:Bool):Int :=
 if x1 ≠ 0 then x1 else if x2 ≠ 0 then x2 else if b3=true then 13 else if x4 ≠ 0 then x4 else if y<0∨100<y then 18 else if x7 ≠ 0 then x7 else if b8=true then 0 else 7
theorem evF_err {p:PlM} {t:Tm} {x2 x4 x7:Int} {b3 b8:Bool} (h2:CChk p.cr.l x2) (h3:b3=true↔(wrongB p.crop p.cr.n=true∨∃ r ∈ p.hi.l,wrongB r.crop p.cr.n=true)) (h4:b3=false→HChk (p.hi.l.map RcdM.pl) x4) (h7:FRight (p.zo.l.map FtrM.pl) p.day x7) (h8:b8=true↔Vld p.rc.l) :
  evF (chkT t) x2 b3 x4 p.year x7 b8=evErr p t:=by
 unfold evF evErr
 by_cases k1:chkT t ≠ 0
 ·rw [if_pos k1,if_pos k1]
 rw [if_neg k1,if_neg k1]
 have c2:=cchk_if h2
 by_cases k2:x2 ≠ 0
 ·rw [if_pos k2,if_pos (c2.1.1 k2)];exact c2.2 k2
 rw [if_neg k2,if_neg (fun h=>k2 (c2.1.2 h))]
 cases b3 with
 | true=>rw [if_pos rfl,if_pos (h3.1 rfl)]
 | false =>
  rw [if_neg (show ¬ (false=true) by decide),if_neg (show ¬ (wrongB p.crop p.cr.n=true∨∃ r ∈ p.hi.l,wrongB r.crop p.cr.n=true) from fun h=>by have:=h3.2 h;cases this)]
  have c4:=hchk_if (h4 rfl)
  by_cases k4:x4 ≠ 0
  ·rw [if_pos k4,if_pos (c4.1.1 k4)];exact c4.2 k4
  rw [if_neg k4,if_neg (fun h=>k4 (c4.1.2 h))]
  by_cases k5:p.year<0∨100<p.year
  ·rw [if_pos k5,if_pos k5]
  rw [if_neg k5,if_neg k5]
  have c7:=fright_if h7
  by_cases k6:∃ f ∈ p.zo.l.map FtrM.pl,kindOk f.kind=false
  ·rw [if_pos k6] at c7 ⊢
   rw [c7,if_pos (by decide)]
  ·rw [if_neg k6] at c7 ⊢
   by_cases k7:¬ (0≤p.day∧p.day≤36864)
   ·rw [if_pos k7] at c7 ⊢
    rw [c7,if_pos (by decide)]
   ·rw [if_neg k7] at c7 ⊢
    rw [c7,if_neg (by decide)]
    by_cases k8:Vld p.rc.l
    ·rw [if_pos (h8.2 k8),if_neg (Classical.not_not.2 k8)]
    ·rw [if_neg (fun h=>k8 (h8.1 h)),if_pos k8]
structure ChW (w:World) (p:PlM) (t:TmM) (W:World):Prop where
 pl:Blk W w.heap.size 98 p.cells.toArray
 tm:Blk W (w.heap.size+1) 24 (encTm t).toArray
 below:Below w.heap.size w W
theorem ChW.beh {w:World} {p:PlM} {t:TmM} {W W':World} (h:ChW w p t W) (hb:Below W.heap.size W W'):ChW w p t W':=⟨h.pl.below hb,h.tm.below hb,btr h.below hb⟩
theorem encTm_info (t:TmM):(Tryz.prog.info? 24).map (·.size)=some (encTm t).toArray.size:=by cases t;exact tmInfo
def CkP (w:World) (p:PlM) (t:Tm) (e:Ending) (w':World):Prop:=e=.returned (.int .i64 (evErr p t))∧Below w.heap.size w w'
theorem pcheck_any (p:PlM) (t:TmM) (w:World) (h:PlG w p) (ht:TmOk w t) :
  Calls Tryz.prog 52 #[.agg p.cells.toArray,.agg (encTm t).toArray] w (CkP w p t.pl):=by
 obtain ⟨W,hW⟩:∃ W,(w.alloc (.cells p.cells.toArray 98)).alloc (.cells (encTm t).toArray 24)=W:=⟨_,rfl⟩
 have A0:RowKit.Hid (ChW w p t W):=by show ChW _ _ _ _;rw [← hW];exact ⟨(Blk.new w _ _).alloc _,Blk.fresh (by simp),Bw.out⟩
 have HCH:=hid fun W' (hW':Below w.heap.size w W')=>check_any t W' (ht.beh hW')
 have HCR:=hid fun W' (hW':Below w.heap.size w W')=>pccheck_any p.cr W' (h.cr.below hW') h.cat
 have HON:=hid fun W' (hW':Below w.heap.size w W')=>on_any p.zo p.day W' (h.zo.below hW') (fun r hr=>(h.zos r hr).below hW') h.zgood
 have HVL:=hid fun W' (hW':Below w.heap.size w W')=>valid_any p.rc.a p.rc.n p.rc.c p.rc.l W' (h.rc.1.1.below hW') h.rc.1.2.1 (by have:=h.rc.1.2.2;omega)
 have HHI:=hid fun (hg:∀ r ∈ p.hi.l,wrongB r.crop p.cr.n=false) W' (hW':Below w.heap.size w W')=>phcheck_any p.hi W' (h.hi.below hW') (fun r hr=>(h.his r hr).below hW') (h.hgood hg)
 have HCF:RowKit.Hid (∀ W' bt,Below w.heap.size w W'→W'.cell? ⟨bt,0,none⟩=some (.func (.func 91) #[] #[.pointer (some ⟨w.heap.size,0,none⟩)])→W'.cell? ⟨w.heap.size,1,none⟩=some (.slice p.cr.a p.cr.n p.cr.c)→Calls Tryz.prog 92 #[.slice p.hi.a p.hi.n p.hi.c,.func (.func 93) #[] #[.pointer (some ⟨bt,0,none⟩)]] W' fun e w'=>e=.returned (.bool (p.hi.l.any fun r=>wrongB r.crop p.cr.n))∧Below W'.heap.size W' w'):=fun W' bt hW' h0 h1 =>
  cfRd encRcd _ _ en_pchk2 p.hi.a p.hi.n p.hi.c p.hi.l _ W' (h.hi.vw.below hW') h.hi.len (by have:=h.hi.few;omega) (fun x _=>encRcd_len x) fun W2 hW2 r _=>pchk2_any r bt w.heap.size p.cr.a p.cr.n p.cr.c W2 (bc1 hW2 h0) (bc1 hW2 h1)
 have HC1:=hid fun W' (h1:W'.cell? ⟨w.heap.size,1,none⟩=some (.slice p.cr.a p.cr.n p.cr.c))=>pchk1_any p.crop w.heap.size p.cr.a p.cr.n p.cr.c W' h1
 obtain ⟨x1,hx1⟩:∃ x1,chkT t.pl=x1:=⟨_,rfl⟩
 rw [hx1] at HCH
 obtain ⟨v3,hv3⟩:∃ v3,wrongB p.crop p.cr.n=v3:=⟨_,rfl⟩
 rw [hv3] at HC1
 obtain ⟨v4,hv4⟩:∃ v4,(p.hi.l.any fun r=>wrongB r.crop p.cr.n)=v4:=⟨_,rfl⟩
 rw [hv4] at HCF
 have HX1:=hid hx1;have HV3:=hid hv3;have HV4:=hid hv4
 have B3:(v3 || v4)=true↔(wrongB p.crop p.cr.n=true∨∃ r ∈ p.hi.l,wrongB r.crop p.cr.n=true):=by
  rw [← hv3,← hv4,Bool.or_eq_true,List.any_eq_true]
 obtain ⟨x2,hx2⟩:∃ x2,CChk p.cr.l x2:=by
  by_cases k:∃ c ∈ p.cr.l,mkB c=false
  ·exact ⟨14,⟨(fun h=>by obtain ⟨c,hc,e⟩:=k;rw [h c hc] at e;cases e),fun _=>rfl⟩⟩
  ·exact ⟨0,⟨fun _=>rfl,fun h=>absurd h k⟩⟩
 have hx2u:∀ z,CChk p.cr.l z→z=x2:=fun z hz=>by
  by_cases k:∃ c ∈ p.cr.l,mkB c=false
  ·rw [hz.2 k,hx2.2 k]
  ·have k':∀ c ∈ p.cr.l,mkB c=true:=fun c hc=>by
    cases e:mkB c with
    | true=>rfl
    | false=>exact absurd ⟨c,hc,e⟩ k
   rw [hz.1 k',hx2.1 k']
 obtain ⟨x4,hx4⟩:∃ x4,HChk (p.hi.l.map RcdM.pl) x4:=by
  by_cases k:HSort (p.hi.l.map RcdM.pl)
  ·exact ⟨0,⟨fun _=>rfl,fun h=>absurd k h⟩⟩
  ·exact ⟨3,⟨fun h=>absurd h k,fun _=>rfl⟩⟩
 have hx4u:∀ z,HChk (p.hi.l.map RcdM.pl) z→z=x4:=fun z hz=>by
  by_cases k:HSort (p.hi.l.map RcdM.pl)
  ·rw [hz.1 k,hx4.1 k]
  ·rw [hz.2 k,hx4.2 k]
 obtain ⟨x7,hx7⟩:∃ x7,FRight (p.zo.l.map FtrM.pl) p.day x7:=by
  by_cases k:∃ f ∈ p.zo.l.map FtrM.pl,kindOk f.kind=false
  ·exact ⟨14,⟨fun _=>rfl,fun h=>by obtain ⟨c,hc,e⟩:=k;rw [h c hc] at e;cases e⟩⟩
  ·exact ⟨_,⟨fun h=>absurd h k,fun _=>rfl⟩⟩
 have hx7u:∀ z,FRight (p.zo.l.map FtrM.pl) p.day z→z=x7:=fun z hz=>by rw [fright_if hz,fright_if hx7]
 obtain ⟨b8,hb8⟩:∃ b8:Bool,b8=true↔Vld p.rc.l:=by
  by_cases k:Vld p.rc.l
  ·exact ⟨true,fun _=>k,fun _=>rfl⟩
  ·exact ⟨false,(fun h=>by cases h),fun h=>absurd h k⟩
 have EV:RowKit.Hid (evF x1 x2 (v3 || v4) x4 p.year x7 b8=evErr p t.pl):=by
  show _=_
  rw [← hx1]
  exact evF_err hx2 B3 (fun _=>hx4) hx7 hb8
 have HCR:RowKit.Hid (∀ W',Below w.heap.size w W'→Calls Tryz.prog 90 #[.slice p.cr.a p.cr.n p.cr.c] W' fun e w'=>e=.returned (.int .i64 x2)∧Below W'.heap.size W' w'):=fun W' hW' =>
  (HCR.out W' hW').mono fun e w' ⟨z,h1,h2,h3⟩=>⟨by rw [h1,hx2u z h2],h3⟩
 have HHD:RowKit.Hid ((false || v4)=false→∀ W',Below w.heap.size w W'→Calls Tryz.prog 94 #[.slice p.hi.a p.hi.n p.hi.c] W' fun e w'=>e=.returned (.int .i64 x4)∧Below W'.heap.size W' w'):=fun hv W' hW' =>
  (HHI.out (fun r hr=>by
   have h4:v4=false:=by simpa using hv
   rw [← hv4] at h4
   cases e:wrongB r.crop p.cr.n with
   | false=>rfl
   | true=>rw [List.any_eq_true.2 ⟨r,hr,e⟩] at h4;cases h4) W' hW').mono fun e w' ⟨z,h1,h2,h3⟩=>⟨by rw [h1,hx4u z h2],h3⟩
 have HO:RowKit.Hid (∀ W',Below w.heap.size w W'→Calls Tryz.prog 95 #[.slice p.zo.a p.zo.n p.zo.c,.int .i64 p.day] W' fun e w'=>∃ (a:Option Addr) (n c:Nat),e=.returned (.tuple #[.slice a n c,.int .i64 x7])∧Below W'.heap.size W' w'):=fun W' hW' =>
  (HON.out W' hW').mono fun e w' ⟨a,n,c,z,h1,h2,h3⟩=>⟨a,n,c,by rw [h1,hx7u z h2],h3⟩
 have HV8:RowKit.Hid (∀ W',Below w.heap.size w W'→Calls Tryz.prog 96 #[.agg #[.slice p.rc.a p.rc.n p.rc.c]] W' fun e w'=>e=.returned (.bool b8)∧Below W'.heap.size W' w'):=fun W' hW' =>
  (HVL.out W' hW').mono fun e w' ⟨z,h1,h2,h3⟩=>⟨by rw [h1];exact ret_bool (Bool.eq_iff_iff.2 (h2.trans hb8.symm)),h3⟩
 obtain ⟨pb,hpb⟩:∃ pb,p.cells.toArray=pb:=⟨_,rfl⟩
 obtain ⟨tb,htb⟩:∃ tb,(encTm t).toArray=tb:=⟨_,rfl⟩
 have x1c:W.cell? ⟨w.heap.size,1,none⟩=some (.slice p.cr.a p.cr.n p.cr.c):=A0.out.pl.cell 1
 have AX:RowKit.Hid (∀ W',ChW w p t W'→Blk W' w.heap.size 98 pb∧Blk W' (w.heap.size+1) 24 tb):=fun W' h=>⟨hpb ▸ h.pl,htb ▸ h.tm⟩
 have TI:RowKit.Hid ((Tryz.prog.info? 24).map (·.size)=some tb.size):=by show _=_;rw [← htb];exact encTm_info t
 rw [htb] at HCH hW ⊢
 rw [hpb] at hW ⊢
 clear h ht hx1 hv3 hv4 hpb htb B3 hx2 hx2u hx4 hx4u hx7 hx7u hb8 HHI HON HVL x1c HX1 HV3 HV4
 by_cases h1:x1=0
 case neg =>
  have q1:((x1:Int) == 0)=false:=by simpa using h1
  have H1:=hid h1
  clear h1
  go_enter Tryz.func52,Tryz.ntmps52
  go_wp2_with (first
   | (refine wpList_load_row rfl 24 (.tmp 3) rfl (w.heap.size+1) rfl _ tb _ _ (AX.out _ A0.out).2 Tryz.underlying24 rfl TI.out ?_)
   | (go_at_call 40;refine (HCH.out _ A0.out.below).mono ?_;rintro e w1 ⟨rfl,hb1⟩;have A1:=hid (A0.out.beh hb1);have a0:w1.cell? ⟨w.heap.size,0,none⟩=some (.int .i64 p.year):=A1.out.pl.cell 0;have a1:w1.cell? ⟨w.heap.size,1,none⟩=some (.slice p.cr.a p.cr.n p.cr.c):=A1.out.pl.cell 1;have a2:w1.cell? ⟨w.heap.size,2,none⟩=some (.slice p.hi.a p.hi.n p.hi.c):=A1.out.pl.cell 2;have a3:w1.cell? ⟨w.heap.size,3,none⟩=some (.slice p.zo.a p.zo.n p.zo.c):=A1.out.pl.cell 3;have a4:w1.cell? ⟨w.heap.size,4,none⟩=some (.int .i64 p.day):=A1.out.pl.cell 4;have a6:w1.cell? ⟨w.heap.size,6,none⟩=some (.slice p.rc.a p.rc.n p.rc.c):=A1.out.pl.cell 6;have a7:w1.cell? ⟨w.heap.size,7,none⟩=some (.int .i64 p.crop):=A1.out.pl.cell 7;have azz:=A1.out.pl.lt;clear hb1))
  go_ret
  exact ⟨ret_int (by rw [← EV.out];unfold evF;rw [if_pos H1.out]),A1.out.below⟩
 subst h1
 by_cases h2:x2=0
 case neg =>
  have q2:((x2:Int) == 0)=false:=by simpa using h2
  have H2:=hid h2
  clear h2
  go_enter Tryz.func52,Tryz.ntmps52
  go_wp2_with (first
   | (refine wpList_load_row rfl 24 (.tmp 3) rfl (w.heap.size+1) rfl _ tb _ _ (AX.out _ A0.out).2 Tryz.underlying24 rfl TI.out ?_)
   | (go_at_call 40;refine (HCH.out _ A0.out.below).mono ?_;rintro e w1 ⟨rfl,hb1⟩;have A1:=hid (A0.out.beh hb1);have a0:w1.cell? ⟨w.heap.size,0,none⟩=some (.int .i64 p.year):=A1.out.pl.cell 0;have a1:w1.cell? ⟨w.heap.size,1,none⟩=some (.slice p.cr.a p.cr.n p.cr.c):=A1.out.pl.cell 1;have a2:w1.cell? ⟨w.heap.size,2,none⟩=some (.slice p.hi.a p.hi.n p.hi.c):=A1.out.pl.cell 2;have a3:w1.cell? ⟨w.heap.size,3,none⟩=some (.slice p.zo.a p.zo.n p.zo.c):=A1.out.pl.cell 3;have a4:w1.cell? ⟨w.heap.size,4,none⟩=some (.int .i64 p.day):=A1.out.pl.cell 4;have a6:w1.cell? ⟨w.heap.size,6,none⟩=some (.slice p.rc.a p.rc.n p.rc.c):=A1.out.pl.cell 6;have a7:w1.cell? ⟨w.heap.size,7,none⟩=some (.int .i64 p.crop):=A1.out.pl.cell 7;have azz:=A1.out.pl.lt;clear hb1)
   | (go_at_call 90;refine (HCR.out _ A1.out.below).mono ?_;rintro e w2 ⟨rfl,hb2⟩;have A2:=hid (A1.out.beh hb2);have b0:w2.cell? ⟨w.heap.size,0,none⟩=some (.int .i64 p.year):=A2.out.pl.cell 0;have b1:w2.cell? ⟨w.heap.size,1,none⟩=some (.slice p.cr.a p.cr.n p.cr.c):=A2.out.pl.cell 1;have b2:w2.cell? ⟨w.heap.size,2,none⟩=some (.slice p.hi.a p.hi.n p.hi.c):=A2.out.pl.cell 2;have b3:w2.cell? ⟨w.heap.size,3,none⟩=some (.slice p.zo.a p.zo.n p.zo.c):=A2.out.pl.cell 3;have b4:w2.cell? ⟨w.heap.size,4,none⟩=some (.int .i64 p.day):=A2.out.pl.cell 4;have b6:w2.cell? ⟨w.heap.size,6,none⟩=some (.slice p.rc.a p.rc.n p.rc.c):=A2.out.pl.cell 6;have b7:w2.cell? ⟨w.heap.size,7,none⟩=some (.int .i64 p.crop):=A2.out.pl.cell 7;have bzz:=A2.out.pl.lt;clear hb2))
  go_ret
  exact ⟨ret_int (by rw [← EV.out];unfold evF;rw [if_neg (by decide),if_pos H2.out]),A2.out.below⟩
 subst h2
 cases v3 with
 | true =>
  go_enter Tryz.func52,Tryz.ntmps52
  go_wp2_with (first
   | (refine wpList_load_row rfl 24 (.tmp 3) rfl (w.heap.size+1) rfl _ tb _ _ (AX.out _ A0.out).2 Tryz.underlying24 rfl TI.out ?_)
   | (go_at_call 40;refine (HCH.out _ A0.out.below).mono ?_;rintro e w1 ⟨rfl,hb1⟩;have A1:=hid (A0.out.beh hb1);have a0:w1.cell? ⟨w.heap.size,0,none⟩=some (.int .i64 p.year):=A1.out.pl.cell 0;have a1:w1.cell? ⟨w.heap.size,1,none⟩=some (.slice p.cr.a p.cr.n p.cr.c):=A1.out.pl.cell 1;have a2:w1.cell? ⟨w.heap.size,2,none⟩=some (.slice p.hi.a p.hi.n p.hi.c):=A1.out.pl.cell 2;have a3:w1.cell? ⟨w.heap.size,3,none⟩=some (.slice p.zo.a p.zo.n p.zo.c):=A1.out.pl.cell 3;have a4:w1.cell? ⟨w.heap.size,4,none⟩=some (.int .i64 p.day):=A1.out.pl.cell 4;have a6:w1.cell? ⟨w.heap.size,6,none⟩=some (.slice p.rc.a p.rc.n p.rc.c):=A1.out.pl.cell 6;have a7:w1.cell? ⟨w.heap.size,7,none⟩=some (.int .i64 p.crop):=A1.out.pl.cell 7;have azz:=A1.out.pl.lt;clear hb1)
   | (go_at_call 90;refine (HCR.out _ A1.out.below).mono ?_;rintro e w2 ⟨rfl,hb2⟩;have A2:=hid (A1.out.beh hb2);have b0:w2.cell? ⟨w.heap.size,0,none⟩=some (.int .i64 p.year):=A2.out.pl.cell 0;have b1:w2.cell? ⟨w.heap.size,1,none⟩=some (.slice p.cr.a p.cr.n p.cr.c):=A2.out.pl.cell 1;have b2:w2.cell? ⟨w.heap.size,2,none⟩=some (.slice p.hi.a p.hi.n p.hi.c):=A2.out.pl.cell 2;have b3:w2.cell? ⟨w.heap.size,3,none⟩=some (.slice p.zo.a p.zo.n p.zo.c):=A2.out.pl.cell 3;have b4:w2.cell? ⟨w.heap.size,4,none⟩=some (.int .i64 p.day):=A2.out.pl.cell 4;have b6:w2.cell? ⟨w.heap.size,6,none⟩=some (.slice p.rc.a p.rc.n p.rc.c):=A2.out.pl.cell 6;have b7:w2.cell? ⟨w.heap.size,7,none⟩=some (.int .i64 p.crop):=A2.out.pl.cell 7;have bzz:=A2.out.pl.lt;clear hb2)
   | (go_at_call 91;refine (HC1.out _ (bc1 Bw.out b1)).mono ?_;rintro e w3 ⟨rfl,hb3⟩;have hq3:Below w2.heap.size w2 w3:=btr Bw.out hb3;have A3:=hid (A2.out.beh hq3);have k7:w3.cell? ⟨w2.heap.size,0,none⟩=some (.func (.func 91) #[] #[.pointer (some ⟨w.heap.size,0,none⟩)]):=bc1 hb3 (by simp [go_sem]);have c0:w3.cell? ⟨w.heap.size,0,none⟩=some (.int .i64 p.year):=A3.out.pl.cell 0;have c1:w3.cell? ⟨w.heap.size,1,none⟩=some (.slice p.cr.a p.cr.n p.cr.c):=A3.out.pl.cell 1;have c2:w3.cell? ⟨w.heap.size,2,none⟩=some (.slice p.hi.a p.hi.n p.hi.c):=A3.out.pl.cell 2;have c3:w3.cell? ⟨w.heap.size,3,none⟩=some (.slice p.zo.a p.zo.n p.zo.c):=A3.out.pl.cell 3;have c4:w3.cell? ⟨w.heap.size,4,none⟩=some (.int .i64 p.day):=A3.out.pl.cell 4;have c6:w3.cell? ⟨w.heap.size,6,none⟩=some (.slice p.rc.a p.rc.n p.rc.c):=A3.out.pl.cell 6;have c7:w3.cell? ⟨w.heap.size,7,none⟩=some (.int .i64 p.crop):=A3.out.pl.cell 7;have czz:=A3.out.pl.lt;clear hb3))
  go_ret
  exact ⟨ret_int (by rw [← EV.out];unfold evF;rfl),A3.out.below⟩
 | false =>
 cases v4 with
 | true =>
  go_enter Tryz.func52,Tryz.ntmps52
  go_wp2_with (first
   | (refine wpList_load_row rfl 24 (.tmp 3) rfl (w.heap.size+1) rfl _ tb _ _ (AX.out _ A0.out).2 Tryz.underlying24 rfl TI.out ?_)
   | (go_at_call 40;refine (HCH.out _ A0.out.below).mono ?_;rintro e w1 ⟨rfl,hb1⟩;have A1:=hid (A0.out.beh hb1);have a0:w1.cell? ⟨w.heap.size,0,none⟩=some (.int .i64 p.year):=A1.out.pl.cell 0;have a1:w1.cell? ⟨w.heap.size,1,none⟩=some (.slice p.cr.a p.cr.n p.cr.c):=A1.out.pl.cell 1;have a2:w1.cell? ⟨w.heap.size,2,none⟩=some (.slice p.hi.a p.hi.n p.hi.c):=A1.out.pl.cell 2;have a3:w1.cell? ⟨w.heap.size,3,none⟩=some (.slice p.zo.a p.zo.n p.zo.c):=A1.out.pl.cell 3;have a4:w1.cell? ⟨w.heap.size,4,none⟩=some (.int .i64 p.day):=A1.out.pl.cell 4;have a6:w1.cell? ⟨w.heap.size,6,none⟩=some (.slice p.rc.a p.rc.n p.rc.c):=A1.out.pl.cell 6;have a7:w1.cell? ⟨w.heap.size,7,none⟩=some (.int .i64 p.crop):=A1.out.pl.cell 7;have azz:=A1.out.pl.lt;clear hb1)
   | (go_at_call 90;refine (HCR.out _ A1.out.below).mono ?_;rintro e w2 ⟨rfl,hb2⟩;have A2:=hid (A1.out.beh hb2);have b0:w2.cell? ⟨w.heap.size,0,none⟩=some (.int .i64 p.year):=A2.out.pl.cell 0;have b1:w2.cell? ⟨w.heap.size,1,none⟩=some (.slice p.cr.a p.cr.n p.cr.c):=A2.out.pl.cell 1;have b2:w2.cell? ⟨w.heap.size,2,none⟩=some (.slice p.hi.a p.hi.n p.hi.c):=A2.out.pl.cell 2;have b3:w2.cell? ⟨w.heap.size,3,none⟩=some (.slice p.zo.a p.zo.n p.zo.c):=A2.out.pl.cell 3;have b4:w2.cell? ⟨w.heap.size,4,none⟩=some (.int .i64 p.day):=A2.out.pl.cell 4;have b6:w2.cell? ⟨w.heap.size,6,none⟩=some (.slice p.rc.a p.rc.n p.rc.c):=A2.out.pl.cell 6;have b7:w2.cell? ⟨w.heap.size,7,none⟩=some (.int .i64 p.crop):=A2.out.pl.cell 7;have bzz:=A2.out.pl.lt;clear hb2)
   | (go_at_call 91;refine (HC1.out _ (bc1 Bw.out b1)).mono ?_;rintro e w3 ⟨rfl,hb3⟩;have hq3:Below w2.heap.size w2 w3:=btr Bw.out hb3;have A3:=hid (A2.out.beh hq3);have k7:w3.cell? ⟨w2.heap.size,0,none⟩=some (.func (.func 91) #[] #[.pointer (some ⟨w.heap.size,0,none⟩)]):=bc1 hb3 (by simp [go_sem]);have c0:w3.cell? ⟨w.heap.size,0,none⟩=some (.int .i64 p.year):=A3.out.pl.cell 0;have c1:w3.cell? ⟨w.heap.size,1,none⟩=some (.slice p.cr.a p.cr.n p.cr.c):=A3.out.pl.cell 1;have c2:w3.cell? ⟨w.heap.size,2,none⟩=some (.slice p.hi.a p.hi.n p.hi.c):=A3.out.pl.cell 2;have c3:w3.cell? ⟨w.heap.size,3,none⟩=some (.slice p.zo.a p.zo.n p.zo.c):=A3.out.pl.cell 3;have c4:w3.cell? ⟨w.heap.size,4,none⟩=some (.int .i64 p.day):=A3.out.pl.cell 4;have c6:w3.cell? ⟨w.heap.size,6,none⟩=some (.slice p.rc.a p.rc.n p.rc.c):=A3.out.pl.cell 6;have c7:w3.cell? ⟨w.heap.size,7,none⟩=some (.int .i64 p.crop):=A3.out.pl.cell 7;have czz:=A3.out.pl.lt;clear hb3)
   | (go_at_call 92;refine (HCF.out _ _ A3.out.below k7 c1).mono ?_;rintro e w4 ⟨rfl,hb4⟩;have A4:=hid (A3.out.beh hb4);have d0:w4.cell? ⟨w.heap.size,0,none⟩=some (.int .i64 p.year):=A4.out.pl.cell 0;have d1:w4.cell? ⟨w.heap.size,1,none⟩=some (.slice p.cr.a p.cr.n p.cr.c):=A4.out.pl.cell 1;have d2:w4.cell? ⟨w.heap.size,2,none⟩=some (.slice p.hi.a p.hi.n p.hi.c):=A4.out.pl.cell 2;have d3:w4.cell? ⟨w.heap.size,3,none⟩=some (.slice p.zo.a p.zo.n p.zo.c):=A4.out.pl.cell 3;have d4:w4.cell? ⟨w.heap.size,4,none⟩=some (.int .i64 p.day):=A4.out.pl.cell 4;have d6:w4.cell? ⟨w.heap.size,6,none⟩=some (.slice p.rc.a p.rc.n p.rc.c):=A4.out.pl.cell 6;have d7:w4.cell? ⟨w.heap.size,7,none⟩=some (.int .i64 p.crop):=A4.out.pl.cell 7;have dzz:=A4.out.pl.lt;clear hb4))
  go_ret
  exact ⟨ret_int (by rw [← EV.out];unfold evF;rfl),A4.out.below⟩
 | false =>
 have HH:=hid (HHD.out rfl)
 by_cases h4:x4=0
 case neg =>
  have q4:((x4:Int) == 0)=false:=by simpa using h4
  have H4:=hid h4
  clear h4
  go_enter Tryz.func52,Tryz.ntmps52
  go_wp2_with (first
   | (refine wpList_load_row rfl 24 (.tmp 3) rfl (w.heap.size+1) rfl _ tb _ _ (AX.out _ A0.out).2 Tryz.underlying24 rfl TI.out ?_)
   | (go_at_call 40;refine (HCH.out _ A0.out.below).mono ?_;rintro e w1 ⟨rfl,hb1⟩;have A1:=hid (A0.out.beh hb1);have a0:w1.cell? ⟨w.heap.size,0,none⟩=some (.int .i64 p.year):=A1.out.pl.cell 0;have a1:w1.cell? ⟨w.heap.size,1,none⟩=some (.slice p.cr.a p.cr.n p.cr.c):=A1.out.pl.cell 1;have a2:w1.cell? ⟨w.heap.size,2,none⟩=some (.slice p.hi.a p.hi.n p.hi.c):=A1.out.pl.cell 2;have a3:w1.cell? ⟨w.heap.size,3,none⟩=some (.slice p.zo.a p.zo.n p.zo.c):=A1.out.pl.cell 3;have a4:w1.cell? ⟨w.heap.size,4,none⟩=some (.int .i64 p.day):=A1.out.pl.cell 4;have a6:w1.cell? ⟨w.heap.size,6,none⟩=some (.slice p.rc.a p.rc.n p.rc.c):=A1.out.pl.cell 6;have a7:w1.cell? ⟨w.heap.size,7,none⟩=some (.int .i64 p.crop):=A1.out.pl.cell 7;have azz:=A1.out.pl.lt;clear hb1)
   | (go_at_call 90;refine (HCR.out _ A1.out.below).mono ?_;rintro e w2 ⟨rfl,hb2⟩;have A2:=hid (A1.out.beh hb2);have b0:w2.cell? ⟨w.heap.size,0,none⟩=some (.int .i64 p.year):=A2.out.pl.cell 0;have b1:w2.cell? ⟨w.heap.size,1,none⟩=some (.slice p.cr.a p.cr.n p.cr.c):=A2.out.pl.cell 1;have b2:w2.cell? ⟨w.heap.size,2,none⟩=some (.slice p.hi.a p.hi.n p.hi.c):=A2.out.pl.cell 2;have b3:w2.cell? ⟨w.heap.size,3,none⟩=some (.slice p.zo.a p.zo.n p.zo.c):=A2.out.pl.cell 3;have b4:w2.cell? ⟨w.heap.size,4,none⟩=some (.int .i64 p.day):=A2.out.pl.cell 4;have b6:w2.cell? ⟨w.heap.size,6,none⟩=some (.slice p.rc.a p.rc.n p.rc.c):=A2.out.pl.cell 6;have b7:w2.cell? ⟨w.heap.size,7,none⟩=some (.int .i64 p.crop):=A2.out.pl.cell 7;have bzz:=A2.out.pl.lt;clear hb2)
   | (go_at_call 91;refine (HC1.out _ (bc1 Bw.out b1)).mono ?_;rintro e w3 ⟨rfl,hb3⟩;have hq3:Below w2.heap.size w2 w3:=btr Bw.out hb3;have A3:=hid (A2.out.beh hq3);have k7:w3.cell? ⟨w2.heap.size,0,none⟩=some (.func (.func 91) #[] #[.pointer (some ⟨w.heap.size,0,none⟩)]):=bc1 hb3 (by simp [go_sem]);have c0:w3.cell? ⟨w.heap.size,0,none⟩=some (.int .i64 p.year):=A3.out.pl.cell 0;have c1:w3.cell? ⟨w.heap.size,1,none⟩=some (.slice p.cr.a p.cr.n p.cr.c):=A3.out.pl.cell 1;have c2:w3.cell? ⟨w.heap.size,2,none⟩=some (.slice p.hi.a p.hi.n p.hi.c):=A3.out.pl.cell 2;have c3:w3.cell? ⟨w.heap.size,3,none⟩=some (.slice p.zo.a p.zo.n p.zo.c):=A3.out.pl.cell 3;have c4:w3.cell? ⟨w.heap.size,4,none⟩=some (.int .i64 p.day):=A3.out.pl.cell 4;have c6:w3.cell? ⟨w.heap.size,6,none⟩=some (.slice p.rc.a p.rc.n p.rc.c):=A3.out.pl.cell 6;have c7:w3.cell? ⟨w.heap.size,7,none⟩=some (.int .i64 p.crop):=A3.out.pl.cell 7;have czz:=A3.out.pl.lt;clear hb3)
   | (go_at_call 92;refine (HCF.out _ _ A3.out.below k7 c1).mono ?_;rintro e w4 ⟨rfl,hb4⟩;have A4:=hid (A3.out.beh hb4);have d0:w4.cell? ⟨w.heap.size,0,none⟩=some (.int .i64 p.year):=A4.out.pl.cell 0;have d1:w4.cell? ⟨w.heap.size,1,none⟩=some (.slice p.cr.a p.cr.n p.cr.c):=A4.out.pl.cell 1;have d2:w4.cell? ⟨w.heap.size,2,none⟩=some (.slice p.hi.a p.hi.n p.hi.c):=A4.out.pl.cell 2;have d3:w4.cell? ⟨w.heap.size,3,none⟩=some (.slice p.zo.a p.zo.n p.zo.c):=A4.out.pl.cell 3;have d4:w4.cell? ⟨w.heap.size,4,none⟩=some (.int .i64 p.day):=A4.out.pl.cell 4;have d6:w4.cell? ⟨w.heap.size,6,none⟩=some (.slice p.rc.a p.rc.n p.rc.c):=A4.out.pl.cell 6;have d7:w4.cell? ⟨w.heap.size,7,none⟩=some (.int .i64 p.crop):=A4.out.pl.cell 7;have dzz:=A4.out.pl.lt;clear hb4)
   | (go_at_call 94;refine (HH.out _ A4.out.below).mono ?_;rintro e w5 ⟨rfl,hb5⟩;have A5:=hid (A4.out.beh hb5);have e0:w5.cell? ⟨w.heap.size,0,none⟩=some (.int .i64 p.year):=A5.out.pl.cell 0;have e1:w5.cell? ⟨w.heap.size,1,none⟩=some (.slice p.cr.a p.cr.n p.cr.c):=A5.out.pl.cell 1;have e2:w5.cell? ⟨w.heap.size,2,none⟩=some (.slice p.hi.a p.hi.n p.hi.c):=A5.out.pl.cell 2;have e3:w5.cell? ⟨w.heap.size,3,none⟩=some (.slice p.zo.a p.zo.n p.zo.c):=A5.out.pl.cell 3;have e4:w5.cell? ⟨w.heap.size,4,none⟩=some (.int .i64 p.day):=A5.out.pl.cell 4;have e6:w5.cell? ⟨w.heap.size,6,none⟩=some (.slice p.rc.a p.rc.n p.rc.c):=A5.out.pl.cell 6;have e7:w5.cell? ⟨w.heap.size,7,none⟩=some (.int .i64 p.crop):=A5.out.pl.cell 7;have ezz:=A5.out.pl.lt;clear hb5))
  go_ret
  exact ⟨ret_int (by rw [← EV.out];unfold evF;rw [if_neg (by decide),if_neg (by decide),if_neg (by decide),if_pos H4.out]),A5.out.below⟩
 subst h4
 by_cases h5:p.year<0
 ·have H5:=hid h5
  go_enter Tryz.func52,Tryz.ntmps52
  go_wp2_with (first
   | (refine wpList_load_row rfl 24 (.tmp 3) rfl (w.heap.size+1) rfl _ tb _ _ (AX.out _ A0.out).2 Tryz.underlying24 rfl TI.out ?_)
   | (go_at_call 40;refine (HCH.out _ A0.out.below).mono ?_;rintro e w1 ⟨rfl,hb1⟩;have A1:=hid (A0.out.beh hb1);have a0:w1.cell? ⟨w.heap.size,0,none⟩=some (.int .i64 p.year):=A1.out.pl.cell 0;have a1:w1.cell? ⟨w.heap.size,1,none⟩=some (.slice p.cr.a p.cr.n p.cr.c):=A1.out.pl.cell 1;have a2:w1.cell? ⟨w.heap.size,2,none⟩=some (.slice p.hi.a p.hi.n p.hi.c):=A1.out.pl.cell 2;have a3:w1.cell? ⟨w.heap.size,3,none⟩=some (.slice p.zo.a p.zo.n p.zo.c):=A1.out.pl.cell 3;have a4:w1.cell? ⟨w.heap.size,4,none⟩=some (.int .i64 p.day):=A1.out.pl.cell 4;have a6:w1.cell? ⟨w.heap.size,6,none⟩=some (.slice p.rc.a p.rc.n p.rc.c):=A1.out.pl.cell 6;have a7:w1.cell? ⟨w.heap.size,7,none⟩=some (.int .i64 p.crop):=A1.out.pl.cell 7;have azz:=A1.out.pl.lt;clear hb1)
   | (go_at_call 90;refine (HCR.out _ A1.out.below).mono ?_;rintro e w2 ⟨rfl,hb2⟩;have A2:=hid (A1.out.beh hb2);have b0:w2.cell? ⟨w.heap.size,0,none⟩=some (.int .i64 p.year):=A2.out.pl.cell 0;have b1:w2.cell? ⟨w.heap.size,1,none⟩=some (.slice p.cr.a p.cr.n p.cr.c):=A2.out.pl.cell 1;have b2:w2.cell? ⟨w.heap.size,2,none⟩=some (.slice p.hi.a p.hi.n p.hi.c):=A2.out.pl.cell 2;have b3:w2.cell? ⟨w.heap.size,3,none⟩=some (.slice p.zo.a p.zo.n p.zo.c):=A2.out.pl.cell 3;have b4:w2.cell? ⟨w.heap.size,4,none⟩=some (.int .i64 p.day):=A2.out.pl.cell 4;have b6:w2.cell? ⟨w.heap.size,6,none⟩=some (.slice p.rc.a p.rc.n p.rc.c):=A2.out.pl.cell 6;have b7:w2.cell? ⟨w.heap.size,7,none⟩=some (.int .i64 p.crop):=A2.out.pl.cell 7;have bzz:=A2.out.pl.lt;clear hb2)
   | (go_at_call 91;refine (HC1.out _ (bc1 Bw.out b1)).mono ?_;rintro e w3 ⟨rfl,hb3⟩;have hq3:Below w2.heap.size w2 w3:=btr Bw.out hb3;have A3:=hid (A2.out.beh hq3);have k7:w3.cell? ⟨w2.heap.size,0,none⟩=some (.func (.func 91) #[] #[.pointer (some ⟨w.heap.size,0,none⟩)]):=bc1 hb3 (by simp [go_sem]);have c0:w3.cell? ⟨w.heap.size,0,none⟩=some (.int .i64 p.year):=A3.out.pl.cell 0;have c1:w3.cell? ⟨w.heap.size,1,none⟩=some (.slice p.cr.a p.cr.n p.cr.c):=A3.out.pl.cell 1;have c2:w3.cell? ⟨w.heap.size,2,none⟩=some (.slice p.hi.a p.hi.n p.hi.c):=A3.out.pl.cell 2;have c3:w3.cell? ⟨w.heap.size,3,none⟩=some (.slice p.zo.a p.zo.n p.zo.c):=A3.out.pl.cell 3;have c4:w3.cell? ⟨w.heap.size,4,none⟩=some (.int .i64 p.day):=A3.out.pl.cell 4;have c6:w3.cell? ⟨w.heap.size,6,none⟩=some (.slice p.rc.a p.rc.n p.rc.c):=A3.out.pl.cell 6;have c7:w3.cell? ⟨w.heap.size,7,none⟩=some (.int .i64 p.crop):=A3.out.pl.cell 7;have czz:=A3.out.pl.lt;clear hb3)
   | (go_at_call 92;refine (HCF.out _ _ A3.out.below k7 c1).mono ?_;rintro e w4 ⟨rfl,hb4⟩;have A4:=hid (A3.out.beh hb4);have d0:w4.cell? ⟨w.heap.size,0,none⟩=some (.int .i64 p.year):=A4.out.pl.cell 0;have d1:w4.cell? ⟨w.heap.size,1,none⟩=some (.slice p.cr.a p.cr.n p.cr.c):=A4.out.pl.cell 1;have d2:w4.cell? ⟨w.heap.size,2,none⟩=some (.slice p.hi.a p.hi.n p.hi.c):=A4.out.pl.cell 2;have d3:w4.cell? ⟨w.heap.size,3,none⟩=some (.slice p.zo.a p.zo.n p.zo.c):=A4.out.pl.cell 3;have d4:w4.cell? ⟨w.heap.size,4,none⟩=some (.int .i64 p.day):=A4.out.pl.cell 4;have d6:w4.cell? ⟨w.heap.size,6,none⟩=some (.slice p.rc.a p.rc.n p.rc.c):=A4.out.pl.cell 6;have d7:w4.cell? ⟨w.heap.size,7,none⟩=some (.int .i64 p.crop):=A4.out.pl.cell 7;have dzz:=A4.out.pl.lt;clear hb4)
   | (go_at_call 94;refine (HH.out _ A4.out.below).mono ?_;rintro e w5 ⟨rfl,hb5⟩;have A5:=hid (A4.out.beh hb5);have e0:w5.cell? ⟨w.heap.size,0,none⟩=some (.int .i64 p.year):=A5.out.pl.cell 0;have e1:w5.cell? ⟨w.heap.size,1,none⟩=some (.slice p.cr.a p.cr.n p.cr.c):=A5.out.pl.cell 1;have e2:w5.cell? ⟨w.heap.size,2,none⟩=some (.slice p.hi.a p.hi.n p.hi.c):=A5.out.pl.cell 2;have e3:w5.cell? ⟨w.heap.size,3,none⟩=some (.slice p.zo.a p.zo.n p.zo.c):=A5.out.pl.cell 3;have e4:w5.cell? ⟨w.heap.size,4,none⟩=some (.int .i64 p.day):=A5.out.pl.cell 4;have e6:w5.cell? ⟨w.heap.size,6,none⟩=some (.slice p.rc.a p.rc.n p.rc.c):=A5.out.pl.cell 6;have e7:w5.cell? ⟨w.heap.size,7,none⟩=some (.int .i64 p.crop):=A5.out.pl.cell 7;have ezz:=A5.out.pl.lt;clear hb5))
  go_ret
  exact ⟨ret_int (by rw [← EV.out];unfold evF;rw [if_neg (by decide),if_neg (by decide),if_neg (by decide),if_neg (by decide),if_pos (.inl H5.out)]),A5.out.below⟩
 by_cases h6:100<p.year
 ·have H6:=hid h6
  go_enter Tryz.func52,Tryz.ntmps52
  go_wp2_with (first
   | (refine wpList_load_row rfl 24 (.tmp 3) rfl (w.heap.size+1) rfl _ tb _ _ (AX.out _ A0.out).2 Tryz.underlying24 rfl TI.out ?_)
   | (go_at_call 40;refine (HCH.out _ A0.out.below).mono ?_;rintro e w1 ⟨rfl,hb1⟩;have A1:=hid (A0.out.beh hb1);have a0:w1.cell? ⟨w.heap.size,0,none⟩=some (.int .i64 p.year):=A1.out.pl.cell 0;have a1:w1.cell? ⟨w.heap.size,1,none⟩=some (.slice p.cr.a p.cr.n p.cr.c):=A1.out.pl.cell 1;have a2:w1.cell? ⟨w.heap.size,2,none⟩=some (.slice p.hi.a p.hi.n p.hi.c):=A1.out.pl.cell 2;have a3:w1.cell? ⟨w.heap.size,3,none⟩=some (.slice p.zo.a p.zo.n p.zo.c):=A1.out.pl.cell 3;have a4:w1.cell? ⟨w.heap.size,4,none⟩=some (.int .i64 p.day):=A1.out.pl.cell 4;have a6:w1.cell? ⟨w.heap.size,6,none⟩=some (.slice p.rc.a p.rc.n p.rc.c):=A1.out.pl.cell 6;have a7:w1.cell? ⟨w.heap.size,7,none⟩=some (.int .i64 p.crop):=A1.out.pl.cell 7;have azz:=A1.out.pl.lt;clear hb1)
   | (go_at_call 90;refine (HCR.out _ A1.out.below).mono ?_;rintro e w2 ⟨rfl,hb2⟩;have A2:=hid (A1.out.beh hb2);have b0:w2.cell? ⟨w.heap.size,0,none⟩=some (.int .i64 p.year):=A2.out.pl.cell 0;have b1:w2.cell? ⟨w.heap.size,1,none⟩=some (.slice p.cr.a p.cr.n p.cr.c):=A2.out.pl.cell 1;have b2:w2.cell? ⟨w.heap.size,2,none⟩=some (.slice p.hi.a p.hi.n p.hi.c):=A2.out.pl.cell 2;have b3:w2.cell? ⟨w.heap.size,3,none⟩=some (.slice p.zo.a p.zo.n p.zo.c):=A2.out.pl.cell 3;have b4:w2.cell? ⟨w.heap.size,4,none⟩=some (.int .i64 p.day):=A2.out.pl.cell 4;have b6:w2.cell? ⟨w.heap.size,6,none⟩=some (.slice p.rc.a p.rc.n p.rc.c):=A2.out.pl.cell 6;have b7:w2.cell? ⟨w.heap.size,7,none⟩=some (.int .i64 p.crop):=A2.out.pl.cell 7;have bzz:=A2.out.pl.lt;clear hb2)
   | (go_at_call 91;refine (HC1.out _ (bc1 Bw.out b1)).mono ?_;rintro e w3 ⟨rfl,hb3⟩;have hq3:Below w2.heap.size w2 w3:=btr Bw.out hb3;have A3:=hid (A2.out.beh hq3);have k7:w3.cell? ⟨w2.heap.size,0,none⟩=some (.func (.func 91) #[] #[.pointer (some ⟨w.heap.size,0,none⟩)]):=bc1 hb3 (by simp [go_sem]);have c0:w3.cell? ⟨w.heap.size,0,none⟩=some (.int .i64 p.year):=A3.out.pl.cell 0;have c1:w3.cell? ⟨w.heap.size,1,none⟩=some (.slice p.cr.a p.cr.n p.cr.c):=A3.out.pl.cell 1;have c2:w3.cell? ⟨w.heap.size,2,none⟩=some (.slice p.hi.a p.hi.n p.hi.c):=A3.out.pl.cell 2;have c3:w3.cell? ⟨w.heap.size,3,none⟩=some (.slice p.zo.a p.zo.n p.zo.c):=A3.out.pl.cell 3;have c4:w3.cell? ⟨w.heap.size,4,none⟩=some (.int .i64 p.day):=A3.out.pl.cell 4;have c6:w3.cell? ⟨w.heap.size,6,none⟩=some (.slice p.rc.a p.rc.n p.rc.c):=A3.out.pl.cell 6;have c7:w3.cell? ⟨w.heap.size,7,none⟩=some (.int .i64 p.crop):=A3.out.pl.cell 7;have czz:=A3.out.pl.lt;clear hb3)
   | (go_at_call 92;refine (HCF.out _ _ A3.out.below k7 c1).mono ?_;rintro e w4 ⟨rfl,hb4⟩;have A4:=hid (A3.out.beh hb4);have d0:w4.cell? ⟨w.heap.size,0,none⟩=some (.int .i64 p.year):=A4.out.pl.cell 0;have d1:w4.cell? ⟨w.heap.size,1,none⟩=some (.slice p.cr.a p.cr.n p.cr.c):=A4.out.pl.cell 1;have d2:w4.cell? ⟨w.heap.size,2,none⟩=some (.slice p.hi.a p.hi.n p.hi.c):=A4.out.pl.cell 2;have d3:w4.cell? ⟨w.heap.size,3,none⟩=some (.slice p.zo.a p.zo.n p.zo.c):=A4.out.pl.cell 3;have d4:w4.cell? ⟨w.heap.size,4,none⟩=some (.int .i64 p.day):=A4.out.pl.cell 4;have d6:w4.cell? ⟨w.heap.size,6,none⟩=some (.slice p.rc.a p.rc.n p.rc.c):=A4.out.pl.cell 6;have d7:w4.cell? ⟨w.heap.size,7,none⟩=some (.int .i64 p.crop):=A4.out.pl.cell 7;have dzz:=A4.out.pl.lt;clear hb4)
   | (go_at_call 94;refine (HH.out _ A4.out.below).mono ?_;rintro e w5 ⟨rfl,hb5⟩;have A5:=hid (A4.out.beh hb5);have e0:w5.cell? ⟨w.heap.size,0,none⟩=some (.int .i64 p.year):=A5.out.pl.cell 0;have e1:w5.cell? ⟨w.heap.size,1,none⟩=some (.slice p.cr.a p.cr.n p.cr.c):=A5.out.pl.cell 1;have e2:w5.cell? ⟨w.heap.size,2,none⟩=some (.slice p.hi.a p.hi.n p.hi.c):=A5.out.pl.cell 2;have e3:w5.cell? ⟨w.heap.size,3,none⟩=some (.slice p.zo.a p.zo.n p.zo.c):=A5.out.pl.cell 3;have e4:w5.cell? ⟨w.heap.size,4,none⟩=some (.int .i64 p.day):=A5.out.pl.cell 4;have e6:w5.cell? ⟨w.heap.size,6,none⟩=some (.slice p.rc.a p.rc.n p.rc.c):=A5.out.pl.cell 6;have e7:w5.cell? ⟨w.heap.size,7,none⟩=some (.int .i64 p.crop):=A5.out.pl.cell 7;have ezz:=A5.out.pl.lt;clear hb5))
  go_ret
  exact ⟨ret_int (by rw [← EV.out];unfold evF;rw [if_neg (by decide),if_neg (by decide),if_neg (by decide),if_neg (by decide),if_pos (.inr H6.out)]),A5.out.below⟩
 have H56:RowKit.Hid (¬ (p.year<0∨100<p.year)):=by show ¬ _;omega
 by_cases h7:x7=0
 case neg =>
  have q7:((x7:Int) == 0)=false:=by simpa using h7
  have H7:=hid h7
  clear h7
  go_enter Tryz.func52,Tryz.ntmps52
  go_wp2_with (first
   | (refine wpList_load_row rfl 24 (.tmp 3) rfl (w.heap.size+1) rfl _ tb _ _ (AX.out _ A0.out).2 Tryz.underlying24 rfl TI.out ?_)
   | (go_at_call 40;refine (HCH.out _ A0.out.below).mono ?_;rintro e w1 ⟨rfl,hb1⟩;have A1:=hid (A0.out.beh hb1);have a0:w1.cell? ⟨w.heap.size,0,none⟩=some (.int .i64 p.year):=A1.out.pl.cell 0;have a1:w1.cell? ⟨w.heap.size,1,none⟩=some (.slice p.cr.a p.cr.n p.cr.c):=A1.out.pl.cell 1;have a2:w1.cell? ⟨w.heap.size,2,none⟩=some (.slice p.hi.a p.hi.n p.hi.c):=A1.out.pl.cell 2;have a3:w1.cell? ⟨w.heap.size,3,none⟩=some (.slice p.zo.a p.zo.n p.zo.c):=A1.out.pl.cell 3;have a4:w1.cell? ⟨w.heap.size,4,none⟩=some (.int .i64 p.day):=A1.out.pl.cell 4;have a6:w1.cell? ⟨w.heap.size,6,none⟩=some (.slice p.rc.a p.rc.n p.rc.c):=A1.out.pl.cell 6;have a7:w1.cell? ⟨w.heap.size,7,none⟩=some (.int .i64 p.crop):=A1.out.pl.cell 7;have azz:=A1.out.pl.lt;clear hb1)
   | (go_at_call 90;refine (HCR.out _ A1.out.below).mono ?_;rintro e w2 ⟨rfl,hb2⟩;have A2:=hid (A1.out.beh hb2);have b0:w2.cell? ⟨w.heap.size,0,none⟩=some (.int .i64 p.year):=A2.out.pl.cell 0;have b1:w2.cell? ⟨w.heap.size,1,none⟩=some (.slice p.cr.a p.cr.n p.cr.c):=A2.out.pl.cell 1;have b2:w2.cell? ⟨w.heap.size,2,none⟩=some (.slice p.hi.a p.hi.n p.hi.c):=A2.out.pl.cell 2;have b3:w2.cell? ⟨w.heap.size,3,none⟩=some (.slice p.zo.a p.zo.n p.zo.c):=A2.out.pl.cell 3;have b4:w2.cell? ⟨w.heap.size,4,none⟩=some (.int .i64 p.day):=A2.out.pl.cell 4;have b6:w2.cell? ⟨w.heap.size,6,none⟩=some (.slice p.rc.a p.rc.n p.rc.c):=A2.out.pl.cell 6;have b7:w2.cell? ⟨w.heap.size,7,none⟩=some (.int .i64 p.crop):=A2.out.pl.cell 7;have bzz:=A2.out.pl.lt;clear hb2)
   | (go_at_call 91;refine (HC1.out _ (bc1 Bw.out b1)).mono ?_;rintro e w3 ⟨rfl,hb3⟩;have hq3:Below w2.heap.size w2 w3:=btr Bw.out hb3;have A3:=hid (A2.out.beh hq3);have k7:w3.cell? ⟨w2.heap.size,0,none⟩=some (.func (.func 91) #[] #[.pointer (some ⟨w.heap.size,0,none⟩)]):=bc1 hb3 (by simp [go_sem]);have c0:w3.cell? ⟨w.heap.size,0,none⟩=some (.int .i64 p.year):=A3.out.pl.cell 0;have c1:w3.cell? ⟨w.heap.size,1,none⟩=some (.slice p.cr.a p.cr.n p.cr.c):=A3.out.pl.cell 1;have c2:w3.cell? ⟨w.heap.size,2,none⟩=some (.slice p.hi.a p.hi.n p.hi.c):=A3.out.pl.cell 2;have c3:w3.cell? ⟨w.heap.size,3,none⟩=some (.slice p.zo.a p.zo.n p.zo.c):=A3.out.pl.cell 3;have c4:w3.cell? ⟨w.heap.size,4,none⟩=some (.int .i64 p.day):=A3.out.pl.cell 4;have c6:w3.cell? ⟨w.heap.size,6,none⟩=some (.slice p.rc.a p.rc.n p.rc.c):=A3.out.pl.cell 6;have c7:w3.cell? ⟨w.heap.size,7,none⟩=some (.int .i64 p.crop):=A3.out.pl.cell 7;have czz:=A3.out.pl.lt;clear hb3)
   | (go_at_call 92;refine (HCF.out _ _ A3.out.below k7 c1).mono ?_;rintro e w4 ⟨rfl,hb4⟩;have A4:=hid (A3.out.beh hb4);have d0:w4.cell? ⟨w.heap.size,0,none⟩=some (.int .i64 p.year):=A4.out.pl.cell 0;have d1:w4.cell? ⟨w.heap.size,1,none⟩=some (.slice p.cr.a p.cr.n p.cr.c):=A4.out.pl.cell 1;have d2:w4.cell? ⟨w.heap.size,2,none⟩=some (.slice p.hi.a p.hi.n p.hi.c):=A4.out.pl.cell 2;have d3:w4.cell? ⟨w.heap.size,3,none⟩=some (.slice p.zo.a p.zo.n p.zo.c):=A4.out.pl.cell 3;have d4:w4.cell? ⟨w.heap.size,4,none⟩=some (.int .i64 p.day):=A4.out.pl.cell 4;have d6:w4.cell? ⟨w.heap.size,6,none⟩=some (.slice p.rc.a p.rc.n p.rc.c):=A4.out.pl.cell 6;have d7:w4.cell? ⟨w.heap.size,7,none⟩=some (.int .i64 p.crop):=A4.out.pl.cell 7;have dzz:=A4.out.pl.lt;clear hb4)
   | (go_at_call 94;refine (HH.out _ A4.out.below).mono ?_;rintro e w5 ⟨rfl,hb5⟩;have A5:=hid (A4.out.beh hb5);have e0:w5.cell? ⟨w.heap.size,0,none⟩=some (.int .i64 p.year):=A5.out.pl.cell 0;have e1:w5.cell? ⟨w.heap.size,1,none⟩=some (.slice p.cr.a p.cr.n p.cr.c):=A5.out.pl.cell 1;have e2:w5.cell? ⟨w.heap.size,2,none⟩=some (.slice p.hi.a p.hi.n p.hi.c):=A5.out.pl.cell 2;have e3:w5.cell? ⟨w.heap.size,3,none⟩=some (.slice p.zo.a p.zo.n p.zo.c):=A5.out.pl.cell 3;have e4:w5.cell? ⟨w.heap.size,4,none⟩=some (.int .i64 p.day):=A5.out.pl.cell 4;have e6:w5.cell? ⟨w.heap.size,6,none⟩=some (.slice p.rc.a p.rc.n p.rc.c):=A5.out.pl.cell 6;have e7:w5.cell? ⟨w.heap.size,7,none⟩=some (.int .i64 p.crop):=A5.out.pl.cell 7;have ezz:=A5.out.pl.lt;clear hb5)
   | (go_at_call 95;refine (HO.out _ A5.out.below).mono ?_;rintro e w6 ⟨oa,on,oc,rfl,hb6⟩;have A6:=hid (A5.out.beh hb6);have f0:w6.cell? ⟨w.heap.size,0,none⟩=some (.int .i64 p.year):=A6.out.pl.cell 0;have f1:w6.cell? ⟨w.heap.size,1,none⟩=some (.slice p.cr.a p.cr.n p.cr.c):=A6.out.pl.cell 1;have f2:w6.cell? ⟨w.heap.size,2,none⟩=some (.slice p.hi.a p.hi.n p.hi.c):=A6.out.pl.cell 2;have f3:w6.cell? ⟨w.heap.size,3,none⟩=some (.slice p.zo.a p.zo.n p.zo.c):=A6.out.pl.cell 3;have f4:w6.cell? ⟨w.heap.size,4,none⟩=some (.int .i64 p.day):=A6.out.pl.cell 4;have f6:w6.cell? ⟨w.heap.size,6,none⟩=some (.slice p.rc.a p.rc.n p.rc.c):=A6.out.pl.cell 6;have f7:w6.cell? ⟨w.heap.size,7,none⟩=some (.int .i64 p.crop):=A6.out.pl.cell 7;have fzz:=A6.out.pl.lt;clear hb6))
  go_ret
  exact ⟨ret_int (by rw [← EV.out];unfold evF;rw [if_neg (by decide),if_neg (by decide),if_neg (by decide),if_neg (by decide),if_neg H56.out,if_pos H7.out]),A6.out.below⟩
 subst h7
 cases b8 with
 | true =>
  go_enter Tryz.func52,Tryz.ntmps52
  go_wp2_with (first
   | (refine wpList_load_row rfl 24 (.tmp 3) rfl (w.heap.size+1) rfl _ tb _ _ (AX.out _ A0.out).2 Tryz.underlying24 rfl TI.out ?_)
   | (go_at_call 40;refine (HCH.out _ A0.out.below).mono ?_;rintro e w1 ⟨rfl,hb1⟩;have A1:=hid (A0.out.beh hb1);have a0:w1.cell? ⟨w.heap.size,0,none⟩=some (.int .i64 p.year):=A1.out.pl.cell 0;have a1:w1.cell? ⟨w.heap.size,1,none⟩=some (.slice p.cr.a p.cr.n p.cr.c):=A1.out.pl.cell 1;have a2:w1.cell? ⟨w.heap.size,2,none⟩=some (.slice p.hi.a p.hi.n p.hi.c):=A1.out.pl.cell 2;have a3:w1.cell? ⟨w.heap.size,3,none⟩=some (.slice p.zo.a p.zo.n p.zo.c):=A1.out.pl.cell 3;have a4:w1.cell? ⟨w.heap.size,4,none⟩=some (.int .i64 p.day):=A1.out.pl.cell 4;have a6:w1.cell? ⟨w.heap.size,6,none⟩=some (.slice p.rc.a p.rc.n p.rc.c):=A1.out.pl.cell 6;have a7:w1.cell? ⟨w.heap.size,7,none⟩=some (.int .i64 p.crop):=A1.out.pl.cell 7;have azz:=A1.out.pl.lt;clear hb1)
   | (go_at_call 90;refine (HCR.out _ A1.out.below).mono ?_;rintro e w2 ⟨rfl,hb2⟩;have A2:=hid (A1.out.beh hb2);have b0:w2.cell? ⟨w.heap.size,0,none⟩=some (.int .i64 p.year):=A2.out.pl.cell 0;have b1:w2.cell? ⟨w.heap.size,1,none⟩=some (.slice p.cr.a p.cr.n p.cr.c):=A2.out.pl.cell 1;have b2:w2.cell? ⟨w.heap.size,2,none⟩=some (.slice p.hi.a p.hi.n p.hi.c):=A2.out.pl.cell 2;have b3:w2.cell? ⟨w.heap.size,3,none⟩=some (.slice p.zo.a p.zo.n p.zo.c):=A2.out.pl.cell 3;have b4:w2.cell? ⟨w.heap.size,4,none⟩=some (.int .i64 p.day):=A2.out.pl.cell 4;have b6:w2.cell? ⟨w.heap.size,6,none⟩=some (.slice p.rc.a p.rc.n p.rc.c):=A2.out.pl.cell 6;have b7:w2.cell? ⟨w.heap.size,7,none⟩=some (.int .i64 p.crop):=A2.out.pl.cell 7;have bzz:=A2.out.pl.lt;clear hb2)
   | (go_at_call 91;refine (HC1.out _ (bc1 Bw.out b1)).mono ?_;rintro e w3 ⟨rfl,hb3⟩;have hq3:Below w2.heap.size w2 w3:=btr Bw.out hb3;have A3:=hid (A2.out.beh hq3);have k7:w3.cell? ⟨w2.heap.size,0,none⟩=some (.func (.func 91) #[] #[.pointer (some ⟨w.heap.size,0,none⟩)]):=bc1 hb3 (by simp [go_sem]);have c0:w3.cell? ⟨w.heap.size,0,none⟩=some (.int .i64 p.year):=A3.out.pl.cell 0;have c1:w3.cell? ⟨w.heap.size,1,none⟩=some (.slice p.cr.a p.cr.n p.cr.c):=A3.out.pl.cell 1;have c2:w3.cell? ⟨w.heap.size,2,none⟩=some (.slice p.hi.a p.hi.n p.hi.c):=A3.out.pl.cell 2;have c3:w3.cell? ⟨w.heap.size,3,none⟩=some (.slice p.zo.a p.zo.n p.zo.c):=A3.out.pl.cell 3;have c4:w3.cell? ⟨w.heap.size,4,none⟩=some (.int .i64 p.day):=A3.out.pl.cell 4;have c6:w3.cell? ⟨w.heap.size,6,none⟩=some (.slice p.rc.a p.rc.n p.rc.c):=A3.out.pl.cell 6;have c7:w3.cell? ⟨w.heap.size,7,none⟩=some (.int .i64 p.crop):=A3.out.pl.cell 7;have czz:=A3.out.pl.lt;clear hb3)
   | (go_at_call 92;refine (HCF.out _ _ A3.out.below k7 c1).mono ?_;rintro e w4 ⟨rfl,hb4⟩;have A4:=hid (A3.out.beh hb4);have d0:w4.cell? ⟨w.heap.size,0,none⟩=some (.int .i64 p.year):=A4.out.pl.cell 0;have d1:w4.cell? ⟨w.heap.size,1,none⟩=some (.slice p.cr.a p.cr.n p.cr.c):=A4.out.pl.cell 1;have d2:w4.cell? ⟨w.heap.size,2,none⟩=some (.slice p.hi.a p.hi.n p.hi.c):=A4.out.pl.cell 2;have d3:w4.cell? ⟨w.heap.size,3,none⟩=some (.slice p.zo.a p.zo.n p.zo.c):=A4.out.pl.cell 3;have d4:w4.cell? ⟨w.heap.size,4,none⟩=some (.int .i64 p.day):=A4.out.pl.cell 4;have d6:w4.cell? ⟨w.heap.size,6,none⟩=some (.slice p.rc.a p.rc.n p.rc.c):=A4.out.pl.cell 6;have d7:w4.cell? ⟨w.heap.size,7,none⟩=some (.int .i64 p.crop):=A4.out.pl.cell 7;have dzz:=A4.out.pl.lt;clear hb4)
   | (go_at_call 94;refine (HH.out _ A4.out.below).mono ?_;rintro e w5 ⟨rfl,hb5⟩;have A5:=hid (A4.out.beh hb5);have e0:w5.cell? ⟨w.heap.size,0,none⟩=some (.int .i64 p.year):=A5.out.pl.cell 0;have e1:w5.cell? ⟨w.heap.size,1,none⟩=some (.slice p.cr.a p.cr.n p.cr.c):=A5.out.pl.cell 1;have e2:w5.cell? ⟨w.heap.size,2,none⟩=some (.slice p.hi.a p.hi.n p.hi.c):=A5.out.pl.cell 2;have e3:w5.cell? ⟨w.heap.size,3,none⟩=some (.slice p.zo.a p.zo.n p.zo.c):=A5.out.pl.cell 3;have e4:w5.cell? ⟨w.heap.size,4,none⟩=some (.int .i64 p.day):=A5.out.pl.cell 4;have e6:w5.cell? ⟨w.heap.size,6,none⟩=some (.slice p.rc.a p.rc.n p.rc.c):=A5.out.pl.cell 6;have e7:w5.cell? ⟨w.heap.size,7,none⟩=some (.int .i64 p.crop):=A5.out.pl.cell 7;have ezz:=A5.out.pl.lt;clear hb5)
   | (go_at_call 95;refine (HO.out _ A5.out.below).mono ?_;rintro e w6 ⟨oa,on,oc,rfl,hb6⟩;have A6:=hid (A5.out.beh hb6);have f0:w6.cell? ⟨w.heap.size,0,none⟩=some (.int .i64 p.year):=A6.out.pl.cell 0;have f1:w6.cell? ⟨w.heap.size,1,none⟩=some (.slice p.cr.a p.cr.n p.cr.c):=A6.out.pl.cell 1;have f2:w6.cell? ⟨w.heap.size,2,none⟩=some (.slice p.hi.a p.hi.n p.hi.c):=A6.out.pl.cell 2;have f3:w6.cell? ⟨w.heap.size,3,none⟩=some (.slice p.zo.a p.zo.n p.zo.c):=A6.out.pl.cell 3;have f4:w6.cell? ⟨w.heap.size,4,none⟩=some (.int .i64 p.day):=A6.out.pl.cell 4;have f6:w6.cell? ⟨w.heap.size,6,none⟩=some (.slice p.rc.a p.rc.n p.rc.c):=A6.out.pl.cell 6;have f7:w6.cell? ⟨w.heap.size,7,none⟩=some (.int .i64 p.crop):=A6.out.pl.cell 7;have fzz:=A6.out.pl.lt;clear hb6)
   | (go_at_call 96;refine (HV8.out _ A6.out.below).mono ?_;rintro e w7 ⟨rfl,hb7⟩;have A7:=hid (A6.out.beh hb7);clear hb7))
  go_ret
  exact ⟨ret_int (by rw [← EV.out];unfold evF;rw [if_neg (by decide),if_neg (by decide),if_neg (by decide),if_neg (by decide),if_neg H56.out,if_neg (by decide),if_pos rfl]),A7.out.below⟩
 | false =>
  go_enter Tryz.func52,Tryz.ntmps52
  go_wp2_with (first
   | (refine wpList_load_row rfl 24 (.tmp 3) rfl (w.heap.size+1) rfl _ tb _ _ (AX.out _ A0.out).2 Tryz.underlying24 rfl TI.out ?_)
   | (go_at_call 40;refine (HCH.out _ A0.out.below).mono ?_;rintro e w1 ⟨rfl,hb1⟩;have A1:=hid (A0.out.beh hb1);have a0:w1.cell? ⟨w.heap.size,0,none⟩=some (.int .i64 p.year):=A1.out.pl.cell 0;have a1:w1.cell? ⟨w.heap.size,1,none⟩=some (.slice p.cr.a p.cr.n p.cr.c):=A1.out.pl.cell 1;have a2:w1.cell? ⟨w.heap.size,2,none⟩=some (.slice p.hi.a p.hi.n p.hi.c):=A1.out.pl.cell 2;have a3:w1.cell? ⟨w.heap.size,3,none⟩=some (.slice p.zo.a p.zo.n p.zo.c):=A1.out.pl.cell 3;have a4:w1.cell? ⟨w.heap.size,4,none⟩=some (.int .i64 p.day):=A1.out.pl.cell 4;have a6:w1.cell? ⟨w.heap.size,6,none⟩=some (.slice p.rc.a p.rc.n p.rc.c):=A1.out.pl.cell 6;have a7:w1.cell? ⟨w.heap.size,7,none⟩=some (.int .i64 p.crop):=A1.out.pl.cell 7;have azz:=A1.out.pl.lt;clear hb1)
   | (go_at_call 90;refine (HCR.out _ A1.out.below).mono ?_;rintro e w2 ⟨rfl,hb2⟩;have A2:=hid (A1.out.beh hb2);have b0:w2.cell? ⟨w.heap.size,0,none⟩=some (.int .i64 p.year):=A2.out.pl.cell 0;have b1:w2.cell? ⟨w.heap.size,1,none⟩=some (.slice p.cr.a p.cr.n p.cr.c):=A2.out.pl.cell 1;have b2:w2.cell? ⟨w.heap.size,2,none⟩=some (.slice p.hi.a p.hi.n p.hi.c):=A2.out.pl.cell 2;have b3:w2.cell? ⟨w.heap.size,3,none⟩=some (.slice p.zo.a p.zo.n p.zo.c):=A2.out.pl.cell 3;have b4:w2.cell? ⟨w.heap.size,4,none⟩=some (.int .i64 p.day):=A2.out.pl.cell 4;have b6:w2.cell? ⟨w.heap.size,6,none⟩=some (.slice p.rc.a p.rc.n p.rc.c):=A2.out.pl.cell 6;have b7:w2.cell? ⟨w.heap.size,7,none⟩=some (.int .i64 p.crop):=A2.out.pl.cell 7;have bzz:=A2.out.pl.lt;clear hb2)
   | (go_at_call 91;refine (HC1.out _ (bc1 Bw.out b1)).mono ?_;rintro e w3 ⟨rfl,hb3⟩;have hq3:Below w2.heap.size w2 w3:=btr Bw.out hb3;have A3:=hid (A2.out.beh hq3);have k7:w3.cell? ⟨w2.heap.size,0,none⟩=some (.func (.func 91) #[] #[.pointer (some ⟨w.heap.size,0,none⟩)]):=bc1 hb3 (by simp [go_sem]);have c0:w3.cell? ⟨w.heap.size,0,none⟩=some (.int .i64 p.year):=A3.out.pl.cell 0;have c1:w3.cell? ⟨w.heap.size,1,none⟩=some (.slice p.cr.a p.cr.n p.cr.c):=A3.out.pl.cell 1;have c2:w3.cell? ⟨w.heap.size,2,none⟩=some (.slice p.hi.a p.hi.n p.hi.c):=A3.out.pl.cell 2;have c3:w3.cell? ⟨w.heap.size,3,none⟩=some (.slice p.zo.a p.zo.n p.zo.c):=A3.out.pl.cell 3;have c4:w3.cell? ⟨w.heap.size,4,none⟩=some (.int .i64 p.day):=A3.out.pl.cell 4;have c6:w3.cell? ⟨w.heap.size,6,none⟩=some (.slice p.rc.a p.rc.n p.rc.c):=A3.out.pl.cell 6;have c7:w3.cell? ⟨w.heap.size,7,none⟩=some (.int .i64 p.crop):=A3.out.pl.cell 7;have czz:=A3.out.pl.lt;clear hb3)
   | (go_at_call 92;refine (HCF.out _ _ A3.out.below k7 c1).mono ?_;rintro e w4 ⟨rfl,hb4⟩;have A4:=hid (A3.out.beh hb4);have d0:w4.cell? ⟨w.heap.size,0,none⟩=some (.int .i64 p.year):=A4.out.pl.cell 0;have d1:w4.cell? ⟨w.heap.size,1,none⟩=some (.slice p.cr.a p.cr.n p.cr.c):=A4.out.pl.cell 1;have d2:w4.cell? ⟨w.heap.size,2,none⟩=some (.slice p.hi.a p.hi.n p.hi.c):=A4.out.pl.cell 2;have d3:w4.cell? ⟨w.heap.size,3,none⟩=some (.slice p.zo.a p.zo.n p.zo.c):=A4.out.pl.cell 3;have d4:w4.cell? ⟨w.heap.size,4,none⟩=some (.int .i64 p.day):=A4.out.pl.cell 4;have d6:w4.cell? ⟨w.heap.size,6,none⟩=some (.slice p.rc.a p.rc.n p.rc.c):=A4.out.pl.cell 6;have d7:w4.cell? ⟨w.heap.size,7,none⟩=some (.int .i64 p.crop):=A4.out.pl.cell 7;have dzz:=A4.out.pl.lt;clear hb4)
   | (go_at_call 94;refine (HH.out _ A4.out.below).mono ?_;rintro e w5 ⟨rfl,hb5⟩;have A5:=hid (A4.out.beh hb5);have e0:w5.cell? ⟨w.heap.size,0,none⟩=some (.int .i64 p.year):=A5.out.pl.cell 0;have e1:w5.cell? ⟨w.heap.size,1,none⟩=some (.slice p.cr.a p.cr.n p.cr.c):=A5.out.pl.cell 1;have e2:w5.cell? ⟨w.heap.size,2,none⟩=some (.slice p.hi.a p.hi.n p.hi.c):=A5.out.pl.cell 2;have e3:w5.cell? ⟨w.heap.size,3,none⟩=some (.slice p.zo.a p.zo.n p.zo.c):=A5.out.pl.cell 3;have e4:w5.cell? ⟨w.heap.size,4,none⟩=some (.int .i64 p.day):=A5.out.pl.cell 4;have e6:w5.cell? ⟨w.heap.size,6,none⟩=some (.slice p.rc.a p.rc.n p.rc.c):=A5.out.pl.cell 6;have e7:w5.cell? ⟨w.heap.size,7,none⟩=some (.int .i64 p.crop):=A5.out.pl.cell 7;have ezz:=A5.out.pl.lt;clear hb5)
   | (go_at_call 95;refine (HO.out _ A5.out.below).mono ?_;rintro e w6 ⟨oa,on,oc,rfl,hb6⟩;have A6:=hid (A5.out.beh hb6);have f0:w6.cell? ⟨w.heap.size,0,none⟩=some (.int .i64 p.year):=A6.out.pl.cell 0;have f1:w6.cell? ⟨w.heap.size,1,none⟩=some (.slice p.cr.a p.cr.n p.cr.c):=A6.out.pl.cell 1;have f2:w6.cell? ⟨w.heap.size,2,none⟩=some (.slice p.hi.a p.hi.n p.hi.c):=A6.out.pl.cell 2;have f3:w6.cell? ⟨w.heap.size,3,none⟩=some (.slice p.zo.a p.zo.n p.zo.c):=A6.out.pl.cell 3;have f4:w6.cell? ⟨w.heap.size,4,none⟩=some (.int .i64 p.day):=A6.out.pl.cell 4;have f6:w6.cell? ⟨w.heap.size,6,none⟩=some (.slice p.rc.a p.rc.n p.rc.c):=A6.out.pl.cell 6;have f7:w6.cell? ⟨w.heap.size,7,none⟩=some (.int .i64 p.crop):=A6.out.pl.cell 7;have fzz:=A6.out.pl.lt;clear hb6)
   | (go_at_call 96;refine (HV8.out _ A6.out.below).mono ?_;rintro e w7 ⟨rfl,hb7⟩;have A7:=hid (A6.out.beh hb7);clear hb7))
  go_ret
  exact ⟨ret_int (by rw [← EV.out];unfold evF;rw [if_neg (by decide),if_neg (by decide),if_neg (by decide),if_neg (by decide),if_neg H56.out,if_neg (by decide),if_neg (by decide)]),A7.out.below⟩
end Go.Proofs.YtancajcelmhnkaaGreatDoor
