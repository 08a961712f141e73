/- place.check,walked. -/
import Derived.Test.YtancajcelmhnkaaGreatDoorGv
import Derived.Laws.EntriesVeiled
set_option maxRecDepth 100000
set_option maxHeartbeats 8000000
namespace Go.Proofs.YtancajcelmhnkaaGreatDoor
open Go.RowKit Go.Sort Go.Shelf
set_option linter.unusedVariables false
set_option linter.unusedSimpArgs false
structure ChW (w:World) (p:PlM) (t:TmM) (W:World):Prop where
 pl:Blk W w.heap.size 98 p.cells.toArray
 tm:Blk W (w.heap.size+1) 24 (encTm t).toArray
 below:Below w.heap.size w W
theorem ChW.beh {w:World} {p:PlM} {t:TmM} {W W':World} (h:ChW w p t W) (hb:Below W.heap.size W W'):ChW w p t W':=⟨h.pl.below hb,h.tm.below hb,btr h.below hb⟩
theorem encTm_info (t:TmM):(Tryz.prog.info? 24).map (·.size)=some (encTm t).toArray.size:=by cases t;exact tmInfo
def CkP (w:World) (p:PlM) (t:Tm) (e:Ending) (w':World):Prop:=e=.returned (.int .i64 (evErr p t))∧Below w.heap.size w w'
theorem pcheck_any (p:PlM) (t:TmM) (w:World) (h:PlG w p) (ht:TmOk w t) :
  Calls Tryz.prog 52 #[.agg p.cells.toArray,.agg (encTm t).toArray] w (CkP w p t.pl):=by
 obtain ⟨W,hW⟩:∃ W,(w.alloc (.cells p.cells.toArray 98)).alloc (.cells (encTm t).toArray 24)=W:=⟨_,rfl⟩
 have A0:RowKit.Hid (ChW w p t W):=by show ChW _ _ _ _;rw [← hW];exact ⟨(Blk.new w _ _).alloc _,Blk.fresh (by simp),Bw.out⟩
 have HCH:=hid fun W' (hW':Below w.heap.size w W')=>check_any t W' (ht.beh hW')
 have HCR:=hid fun W' (hW':Below w.heap.size w W')=>pccheck_any p.cr W' (h.cr.below hW') h.cat
 have HON:=hid fun W' (hW':Below w.heap.size w W')=>on_any p.zo p.day W' (h.zo.below hW') (fun r hr=>(h.zos r hr).below hW') h.zgood
 have HVL:=hid fun W' (hW':Below w.heap.size w W')=>valid_any p.rc.a p.rc.n p.rc.c p.rc.l W' (h.rc.1.1.below hW') h.rc.1.2.1 (by have:=h.rc.1.2.2;omega)
 have HHI:=hid fun (hg:∀ r ∈ p.hi.l,wrongB r.crop p.cr.n=false) W' (hW':Below w.heap.size w W')=>phcheck_any p.hi W' (h.hi.below hW') (fun r hr=>(h.his r hr).below hW') (h.hgood hg)
 have HCF:RowKit.Hid (∀ W' bt,Below w.heap.size w W'→W'.cell? ⟨bt,0,none⟩=some (.func (.func 91) #[] #[.pointer (some ⟨w.heap.size,0,none⟩)])→W'.cell? ⟨w.heap.size,1,none⟩=some (.slice p.cr.a p.cr.n p.cr.c)→Calls Tryz.prog 92 #[.slice p.hi.a p.hi.n p.hi.c,.func (.func 93) #[] #[.pointer (some ⟨bt,0,none⟩)]] W' fun e w'=>e=.returned (.bool (p.hi.l.any fun r=>wrongB r.crop p.cr.n))∧Below W'.heap.size W' w'):=fun W' bt hW' h0 h1 =>
  cfRd encRcd _ _ en_pchk2 p.hi.a p.hi.n p.hi.c p.hi.l _ W' (h.hi.vw.below hW') h.hi.len (by have:=h.hi.few;omega) (fun x _=>encRcd_len x) fun W2 hW2 r _=>pchk2_any r bt w.heap.size p.cr.a p.cr.n p.cr.c W2 (bc1 hW2 h0) (bc1 hW2 h1)
 have HC1:=hid fun W' (h1:W'.cell? ⟨w.heap.size,1,none⟩=some (.slice p.cr.a p.cr.n p.cr.c))=>pchk1_any p.crop w.heap.size p.cr.a p.cr.n p.cr.c W' h1
 obtain ⟨x1,hx1⟩:∃ x1,chkT t.pl=x1:=⟨_,rfl⟩
 rw [hx1] at HCH
 obtain ⟨v3,hv3⟩:∃ v3,wrongB p.crop p.cr.n=v3:=⟨_,rfl⟩
 rw [hv3] at HC1
 obtain ⟨v4,hv4⟩:∃ v4,(p.hi.l.any fun r=>wrongB r.crop p.cr.n)=v4:=⟨_,rfl⟩
 rw [hv4] at HCF
 have HX1:=hid hx1;have HV3:=hid hv3;have HV4:=hid hv4
 have B3:(v3 || v4)=true↔(wrongB p.crop p.cr.n=true∨∃ r ∈ p.hi.l,wrongB r.crop p.cr.n=true):=by
  rw [← hv3,← hv4,Bool.or_eq_true,List.any_eq_true]
 obtain ⟨x2,hx2⟩:∃ x2,CChk p.cr.l x2:=by
  by_cases k:∃ c ∈ p.cr.l,mkB c=false
  ·exact ⟨14,⟨(fun h=>by obtain ⟨c,hc,e⟩:=k;rw [h c hc] at e;cases e),fun _=>rfl⟩⟩
  ·exact ⟨0,⟨fun _=>rfl,fun h=>absurd h k⟩⟩
 have hx2u:∀ z,CChk p.cr.l z→z=x2:=fun z hz=>by
  by_cases k:∃ c ∈ p.cr.l,mkB c=false
  ·rw [hz.2 k,hx2.2 k]
  ·have k':∀ c ∈ p.cr.l,mkB c=true:=fun c hc=>by
    cases e:mkB c with
    | true=>rfl
    | false=>exact absurd ⟨c,hc,e⟩ k
   rw [hz.1 k',hx2.1 k']
 obtain ⟨x4,hx4⟩:∃ x4,HChk (p.hi.l.map RcdM.pl) x4:=by
  by_cases k:HSort (p.hi.l.map RcdM.pl)
  ·exact ⟨0,⟨fun _=>rfl,fun h=>absurd k h⟩⟩
  ·exact ⟨3,⟨fun h=>absurd h k,fun _=>rfl⟩⟩
 have hx4u:∀ z,HChk (p.hi.l.map RcdM.pl) z→z=x4:=fun z hz=>by
  by_cases k:HSort (p.hi.l.map RcdM.pl)
  ·rw [hz.1 k,hx4.1 k]
  ·rw [hz.2 k,hx4.2 k]
 obtain ⟨x7,hx7⟩:∃ x7,FRight (p.zo.l.map FtrM.pl) p.day x7:=by
  by_cases k:∃ f ∈ p.zo.l.map FtrM.pl,kindOk f.kind=false
  ·exact ⟨14,⟨fun _=>rfl,fun h=>by obtain ⟨c,hc,e⟩:=k;rw [h c hc] at e;cases e⟩⟩
  ·exact ⟨_,⟨fun h=>absurd h k,fun _=>rfl⟩⟩
 have hx7u:∀ z,FRight (p.zo.l.map FtrM.pl) p.day z→z=x7:=fun z hz=>by rw [fright_if hz,fright_if hx7]
 obtain ⟨b8,hb8⟩:∃ b8:Bool,b8=true↔Vld p.rc.l:=by
  by_cases k:Vld p.rc.l
  ·exact ⟨true,fun _=>k,fun _=>rfl⟩
  ·exact ⟨false,(fun h=>by cases h),fun h=>absurd h k⟩
 have EV:RowKit.Hid (evF x1 x2 (v3 || v4) x4 p.year x7 b8=evErr p t.pl):=by
  show _=_
  rw [← hx1]
  exact evF_err hx2 B3 (fun _=>hx4) hx7 hb8
 have HCR:RowKit.Hid (∀ W',Below w.heap.size w W'→Calls Tryz.prog 90 #[.slice p.cr.a p.cr.n p.cr.c] W' fun e w'=>e=.returned (.int .i64 x2)∧Below W'.heap.size W' w'):=fun W' hW' =>
  (HCR.out W' hW').mono fun e w' ⟨z,h1,h2,h3⟩=>⟨by rw [h1,hx2u z h2],h3⟩
 have HHD:RowKit.Hid ((false || v4)=false→∀ W',Below w.heap.size w W'→Calls Tryz.prog 94 #[.slice p.hi.a p.hi.n p.hi.c] W' fun e w'=>e=.returned (.int .i64 x4)∧Below W'.heap.size W' w'):=fun hv W' hW' =>
  (HHI.out (fun r hr=>by
   have h4:v4=false:=by simpa using hv
   rw [← hv4] at h4
   cases e:wrongB r.crop p.cr.n with
   | false=>rfl
   | true=>rw [List.any_eq_true.2 ⟨r,hr,e⟩] at h4;cases h4) W' hW').mono fun e w' ⟨z,h1,h2,h3⟩=>⟨by rw [h1,hx4u z h2],h3⟩
 have HO:RowKit.Hid (∀ W',Below w.heap.size w W'→Calls Tryz.prog 95 #[.slice p.zo.a p.zo.n p.zo.c,.int .i64 p.day] W' fun e w'=>∃ (a:Option Addr) (n c:Nat),e=.returned (.tuple #[.slice a n c,.int .i64 x7])∧Below W'.heap.size W' w'):=fun W' hW' =>
  (HON.out W' hW').mono fun e w' ⟨a,n,c,z,h1,h2,h3⟩=>⟨a,n,c,by rw [h1,hx7u z h2],h3⟩
 have HV8:RowKit.Hid (∀ W',Below w.heap.size w W'→Calls Tryz.prog 96 #[.agg #[.slice p.rc.a p.rc.n p.rc.c]] W' fun e w'=>e=.returned (.bool b8)∧Below W'.heap.size W' w'):=fun W' hW' =>
  (HVL.out W' hW').mono fun e w' ⟨z,h1,h2,h3⟩=>⟨by rw [h1];exact ret_bool (Bool.eq_iff_iff.2 (h2.trans hb8.symm)),h3⟩
 obtain ⟨pb,hpb⟩:∃ pb,p.cells.toArray=pb:=⟨_,rfl⟩
 obtain ⟨tb,htb⟩:∃ tb,(encTm t).toArray=tb:=⟨_,rfl⟩
 have x1c:W.cell? ⟨w.heap.size,1,none⟩=some (.slice p.cr.a p.cr.n p.cr.c):=A0.out.pl.cell 1
 have AX:RowKit.Hid (∀ W',ChW w p t W'→Blk W' w.heap.size 98 pb∧Blk W' (w.heap.size+1) 24 tb):=fun W' h=>⟨hpb ▸ h.pl,htb ▸ h.tm⟩
 have TI:RowKit.Hid ((Tryz.prog.info? 24).map (·.size)=some tb.size):=by show _=_;rw [← htb];exact encTm_info t
 rw [htb] at HCH hW ⊢
 rw [hpb] at hW ⊢
 clear h ht hx1 hv3 hv4 hpb htb B3 hx2 hx2u hx4 hx4u hx7 hx7u hb8 HHI HON HVL x1c HX1 HV3 HV4
 by_cases h1:x1=0
 case neg =>
  have q1:((x1:Int) == 0)=false:=by simpa using h1
  have H1:=hid h1
  clear h1
  go_enter Tryz.func52,Tryz.ntmps52
  go_wp2_with (first
   | (refine wpList_load_row rfl 24 (.tmp 3) rfl (w.heap.size+1) rfl _ tb _ _ (AX.out _ A0.out).2 Tryz.underlying24 rfl TI.out ?_)
   | (go_at_call 40;refine (HCH.out _ A0.out.below).mono ?_;rintro e w1 ⟨rfl,hb1⟩;have A1:=hid (A0.out.beh hb1);have a0:w1.cell? ⟨w.heap.size,0,none⟩=some (.int .i64 p.year):=A1.out.pl.cell 0;have a1:w1.cell? ⟨w.heap.size,1,none⟩=some (.slice p.cr.a p.cr.n p.cr.c):=A1.out.pl.cell 1;have a2:w1.cell? ⟨w.heap.size,2,none⟩=some (.slice p.hi.a p.hi.n p.hi.c):=A1.out.pl.cell 2;have a3:w1.cell? ⟨w.heap.size,3,none⟩=some (.slice p.zo.a p.zo.n p.zo.c):=A1.out.pl.cell 3;have a4:w1.cell? ⟨w.heap.size,4,none⟩=some (.int .i64 p.day):=A1.out.pl.cell 4;have a6:w1.cell? ⟨w.heap.size,6,none⟩=some (.slice p.rc.a p.rc.n p.rc.c):=A1.out.pl.cell 6;have a7:w1.cell? ⟨w.heap.size,7,none⟩=some (.int .i64 p.crop):=A1.out.pl.cell 7;have azz:=A1.out.pl.lt;clear hb1))
  go_ret
  exact ⟨ret_int (by rw [← EV.out];unfold evF;rw [if_pos H1.out]),A1.out.below⟩
 subst h1
 by_cases h2:x2=0
 case neg =>
  have q2:((x2:Int) == 0)=false:=by simpa using h2
  have H2:=hid h2
  clear h2
  go_enter Tryz.func52,Tryz.ntmps52
  go_wp2_with (first
   | (refine wpList_load_row rfl 24 (.tmp 3) rfl (w.heap.size+1) rfl _ tb _ _ (AX.out _ A0.out).2 Tryz.underlying24 rfl TI.out ?_)
   | (go_at_call 40;refine (HCH.out _ A0.out.below).mono ?_;rintro e w1 ⟨rfl,hb1⟩;have A1:=hid (A0.out.beh hb1);have a0:w1.cell? ⟨w.heap.size,0,none⟩=some (.int .i64 p.year):=A1.out.pl.cell 0;have a1:w1.cell? ⟨w.heap.size,1,none⟩=some (.slice p.cr.a p.cr.n p.cr.c):=A1.out.pl.cell 1;have a2:w1.cell? ⟨w.heap.size,2,none⟩=some (.slice p.hi.a p.hi.n p.hi.c):=A1.out.pl.cell 2;have a3:w1.cell? ⟨w.heap.size,3,none⟩=some (.slice p.zo.a p.zo.n p.zo.c):=A1.out.pl.cell 3;have a4:w1.cell? ⟨w.heap.size,4,none⟩=some (.int .i64 p.day):=A1.out.pl.cell 4;have a6:w1.cell? ⟨w.heap.size,6,none⟩=some (.slice p.rc.a p.rc.n p.rc.c):=A1.out.pl.cell 6;have a7:w1.cell? ⟨w.heap.size,7,none⟩=some (.int .i64 p.crop):=A1.out.pl.cell 7;have azz:=A1.out.pl.lt;clear hb1)
   | (go_at_call 90;refine (HCR.out _ A1.out.below).mono ?_;rintro e w2 ⟨rfl,hb2⟩;have A2:=hid (A1.out.beh hb2);have b0:w2.cell? ⟨w.heap.size,0,none⟩=some (.int .i64 p.year):=A2.out.pl.cell 0;have b1:w2.cell? ⟨w.heap.size,1,none⟩=some (.slice p.cr.a p.cr.n p.cr.c):=A2.out.pl.cell 1;have b2:w2.cell? ⟨w.heap.size,2,none⟩=some (.slice p.hi.a p.hi.n p.hi.c):=A2.out.pl.cell 2;have b3:w2.cell? ⟨w.heap.size,3,none⟩=some (.slice p.zo.a p.zo.n p.zo.c):=A2.out.pl.cell 3;have b4:w2.cell? ⟨w.heap.size,4,none⟩=some (.int .i64 p.day):=A2.out.pl.cell 4;have b6:w2.cell? ⟨w.heap.size,6,none⟩=some (.slice p.rc.a p.rc.n p.rc.c):=A2.out.pl.cell 6;have b7:w2.cell? ⟨w.heap.size,7,none⟩=some (.int .i64 p.crop):=A2.out.pl.cell 7;have bzz:=A2.out.pl.lt;clear hb2))
  go_ret
  exact ⟨ret_int (by rw [← EV.out];unfold evF;rw [if_neg (by decide),if_pos H2.out]),A2.out.below⟩
 subst h2
 cases v3 with
 | true =>
  go_enter Tryz.func52,Tryz.ntmps52
  go_wp2_with (first
   | (refine wpList_load_row rfl 24 (.tmp 3) rfl (w.heap.size+1) rfl _ tb _ _ (AX.out _ A0.out).2 Tryz.underlying24 rfl TI.out ?_)
   | (go_at_call 40;refine (HCH.out _ A0.out.below).mono ?_;rintro e w1 ⟨rfl,hb1⟩;have A1:=hid (A0.out.beh hb1);have a0:w1.cell? ⟨w.heap.size,0,none⟩=some (.int .i64 p.year):=A1.out.pl.cell 0;have a1:w1.cell? ⟨w.heap.size,1,none⟩=some (.slice p.cr.a p.cr.n p.cr.c):=A1.out.pl.cell 1;have a2:w1.cell? ⟨w.heap.size,2,none⟩=some (.slice p.hi.a p.hi.n p.hi.c):=A1.out.pl.cell 2;have a3:w1.cell? ⟨w.heap.size,3,none⟩=some (.slice p.zo.a p.zo.n p.zo.c):=A1.out.pl.cell 3;have a4:w1.cell? ⟨w.heap.size,4,none⟩=some (.int .i64 p.day):=A1.out.pl.cell 4;have a6:w1.cell? ⟨w.heap.size,6,none⟩=some (.slice p.rc.a p.rc.n p.rc.c):=A1.out.pl.cell 6;have a7:w1.cell? ⟨w.heap.size,7,none⟩=some (.int .i64 p.crop):=A1.out.pl.cell 7;have azz:=A1.out.pl.lt;clear hb1)
   | (go_at_call 90;refine (HCR.out _ A1.out.below).mono ?_;rintro e w2 ⟨rfl,hb2⟩;have A2:=hid (A1.out.beh hb2);have b0:w2.cell? ⟨w.heap.size,0,none⟩=some (.int .i64 p.year):=A2.out.pl.cell 0;have b1:w2.cell? ⟨w.heap.size,1,none⟩=some (.slice p.cr.a p.cr.n p.cr.c):=A2.out.pl.cell 1;have b2:w2.cell? ⟨w.heap.size,2,none⟩=some (.slice p.hi.a p.hi.n p.hi.c):=A2.out.pl.cell 2;have b3:w2.cell? ⟨w.heap.size,3,none⟩=some (.slice p.zo.a p.zo.n p.zo.c):=A2.out.pl.cell 3;have b4:w2.cell? ⟨w.heap.size,4,none⟩=some (.int .i64 p.day):=A2.out.pl.cell 4;have b6:w2.cell? ⟨w.heap.size,6,none⟩=some (.slice p.rc.a p.rc.n p.rc.c):=A2.out.pl.cell 6;have b7:w2.cell? ⟨w.heap.size,7,none⟩=some (.int .i64 p.crop):=A2.out.pl.cell 7;have bzz:=A2.out.pl.lt;clear hb2)
   | (go_at_call 91;refine (HC1.out _ (bc1 Bw.out b1)).mono ?_;rintro e w3 ⟨rfl,hb3⟩;have hq3:Below w2.heap.size w2 w3:=btr Bw.out hb3;have A3:=hid (A2.out.beh hq3);have k7:w3.cell? ⟨w2.heap.size,0,none⟩=some (.func (.func 91) #[] #[.pointer (some ⟨w.heap.size,0,none⟩)]):=bc1 hb3 (by simp [go_sem]);have c0:w3.cell? ⟨w.heap.size,0,none⟩=some (.int .i64 p.year):=A3.out.pl.cell 0;have c1:w3.cell? ⟨w.heap.size,1,none⟩=some (.slice p.cr.a p.cr.n p.cr.c):=A3.out.pl.cell 1;have c2:w3.cell? ⟨w.heap.size,2,none⟩=some (.slice p.hi.a p.hi.n p.hi.c):=A3.out.pl.cell 2;have c3:w3.cell? ⟨w.heap.size,3,none⟩=some (.slice p.zo.a p.zo.n p.zo.c):=A3.out.pl.cell 3;have c4:w3.cell? ⟨w.heap.size,4,none⟩=some (.int .i64 p.day):=A3.out.pl.cell 4;have c6:w3.cell? ⟨w.heap.size,6,none⟩=some (.slice p.rc.a p.rc.n p.rc.c):=A3.out.pl.cell 6;have c7:w3.cell? ⟨w.heap.size,7,none⟩=some (.int .i64 p.crop):=A3.out.pl.cell 7;have czz:=A3.out.pl.lt;clear hb3))
  go_ret
  exact ⟨ret_int (by rw [← EV.out];unfold evF;rfl),A3.out.below⟩
 | false =>
 cases v4 with
 | true =>
  go_enter Tryz.func52,Tryz.ntmps52
  go_wp2_with (first
   | (refine wpList_load_row rfl 24 (.tmp 3) rfl (w.heap.size+1) rfl _ tb _ _ (AX.out _ A0.out).2 Tryz.underlying24 rfl TI.out ?_)
   | (go_at_call 40;refine (HCH.out _ A0.out.below).mono ?_;rintro e w1 ⟨rfl,hb1⟩;have A1:=hid (A0.out.beh hb1);have a0:w1.cell? ⟨w.heap.size,0,none⟩=some (.int .i64 p.year):=A1.out.pl.cell 0;have a1:w1.cell? ⟨w.heap.size,1,none⟩=some (.slice p.cr.a p.cr.n p.cr.c):=A1.out.pl.cell 1;have a2:w1.cell? ⟨w.heap.size,2,none⟩=some (.slice p.hi.a p.hi.n p.hi.c):=A1.out.pl.cell 2;have a3:w1.cell? ⟨w.heap.size,3,none⟩=some (.slice p.zo.a p.zo.n p.zo.c):=A1.out.pl.cell 3;have a4:w1.cell? ⟨w.heap.size,4,none⟩=some (.int .i64 p.day):=A1.out.pl.cell 4;have a6:w1.cell? ⟨w.heap.size,6,none⟩=some (.slice p.rc.a p.rc.n p.rc.c):=A1.out.pl.cell 6;have a7:w1.cell? ⟨w.heap.size,7,none⟩=some (.int .i64 p.crop):=A1.out.pl.cell 7;have azz:=A1.out.pl.lt;clear hb1)
   | (go_at_call 90;refine (HCR.out _ A1.out.below).mono ?_;rintro e w2 ⟨rfl,hb2⟩;have A2:=hid (A1.out.beh hb2);have b0:w2.cell? ⟨w.heap.size,0,none⟩=some (.int .i64 p.year):=A2.out.pl.cell 0;have b1:w2.cell? ⟨w.heap.size,1,none⟩=some (.slice p.cr.a p.cr.n p.cr.c):=A2.out.pl.cell 1;have b2:w2.cell? ⟨w.heap.size,2,none⟩=some (.slice p.hi.a p.hi.n p.hi.c):=A2.out.pl.cell 2;have b3:w2.cell? ⟨w.heap.size,3,none⟩=some (.slice p.zo.a p.zo.n p.zo.c):=A2.out.pl.cell 3;have b4:w2.cell? ⟨w.heap.size,4,none⟩=some (.int .i64 p.day):=A2.out.pl.cell 4;have b6:w2.cell? ⟨w.heap.size,6,none⟩=some (.slice p.rc.a p.rc.n p.rc.c):=A2.out.pl.cell 6;have b7:w2.cell? ⟨w.heap.size,7,none⟩=some (.int .i64 p.crop):=A2.out.pl.cell 7;have bzz:=A2.out.pl.lt;clear hb2)
   | (go_at_call 91;refine (HC1.out _ (bc1 Bw.out b1)).mono ?_;rintro e w3 ⟨rfl,hb3⟩;have hq3:Below w2.heap.size w2 w3:=btr Bw.out hb3;have A3:=hid (A2.out.beh hq3);have k7:w3.cell? ⟨w2.heap.size,0,none⟩=some (.func (.func 91) #[] #[.pointer (some ⟨w.heap.size,0,none⟩)]):=bc1 hb3 (by simp [go_sem]);have c0:w3.cell? ⟨w.heap.size,0,none⟩=some (.int .i64 p.year):=A3.out.pl.cell 0;have c1:w3.cell? ⟨w.heap.size,1,none⟩=some (.slice p.cr.a p.cr.n p.cr.c):=A3.out.pl.cell 1;have c2:w3.cell? ⟨w.heap.size,2,none⟩=some (.slice p.hi.a p.hi.n p.hi.c):=A3.out.pl.cell 2;have c3:w3.cell? ⟨w.heap.size,3,none⟩=some (.slice p.zo.a p.zo.n p.zo.c):=A3.out.pl.cell 3;have c4:w3.cell? ⟨w.heap.size,4,none⟩=some (.int .i64 p.day):=A3.out.pl.cell 4;have c6:w3.cell? ⟨w.heap.size,6,none⟩=some (.slice p.rc.a p.rc.n p.rc.c):=A3.out.pl.cell 6;have c7:w3.cell? ⟨w.heap.size,7,none⟩=some (.int .i64 p.crop):=A3.out.pl.cell 7;have czz:=A3.out.pl.lt;clear hb3)
   | (go_at_call 92;refine (HCF.out _ _ A3.out.below k7 c1).mono ?_;rintro e w4 ⟨rfl,hb4⟩;have A4:=hid (A3.out.beh hb4);have d0:w4.cell? ⟨w.heap.size,0,none⟩=some (.int .i64 p.year):=A4.out.pl.cell 0;have d1:w4.cell? ⟨w.heap.size,1,none⟩=some (.slice p.cr.a p.cr.n p.cr.c):=A4.out.pl.cell 1;have d2:w4.cell? ⟨w.heap.size,2,none⟩=some (.slice p.hi.a p.hi.n p.hi.c):=A4.out.pl.cell 2;have d3:w4.cell? ⟨w.heap.size,3,none⟩=some (.slice p.zo.a p.zo.n p.zo.c):=A4.out.pl.cell 3;have d4:w4.cell? ⟨w.heap.size,4,none⟩=some (.int .i64 p.day):=A4.out.pl.cell 4;have d6:w4.cell? ⟨w.heap.size,6,none⟩=some (.slice p.rc.a p.rc.n p.rc.c):=A4.out.pl.cell 6;have d7:w4.cell? ⟨w.heap.size,7,none⟩=some (.int .i64 p.crop):=A4.out.pl.cell 7;have dzz:=A4.out.pl.lt;clear hb4))
  go_ret
  exact ⟨ret_int (by rw [← EV.out];unfold evF;rfl),A4.out.below⟩
 | false =>
 have HH:=hid (HHD.out rfl)
 by_cases h4:x4=0
 case neg =>
  have q4:((x4:Int) == 0)=false:=by simpa using h4
  have H4:=hid h4
  clear h4
  go_enter Tryz.func52,Tryz.ntmps52
  go_wp2_with (first
   | (refine wpList_load_row rfl 24 (.tmp 3) rfl (w.heap.size+1) rfl _ tb _ _ (AX.out _ A0.out).2 Tryz.underlying24 rfl TI.out ?_)
   | (go_at_call 40;refine (HCH.out _ A0.out.below).mono ?_;rintro e w1 ⟨rfl,hb1⟩;have A1:=hid (A0.out.beh hb1);have a0:w1.cell? ⟨w.heap.size,0,none⟩=some (.int .i64 p.year):=A1.out.pl.cell 0;have a1:w1.cell? ⟨w.heap.size,1,none⟩=some (.slice p.cr.a p.cr.n p.cr.c):=A1.out.pl.cell 1;have a2:w1.cell? ⟨w.heap.size,2,none⟩=some (.slice p.hi.a p.hi.n p.hi.c):=A1.out.pl.cell 2;have a3:w1.cell? ⟨w.heap.size,3,none⟩=some (.slice p.zo.a p.zo.n p.zo.c):=A1.out.pl.cell 3;have a4:w1.cell? ⟨w.heap.size,4,none⟩=some (.int .i64 p.day):=A1.out.pl.cell 4;have a6:w1.cell? ⟨w.heap.size,6,none⟩=some (.slice p.rc.a p.rc.n p.rc.c):=A1.out.pl.cell 6;have a7:w1.cell? ⟨w.heap.size,7,none⟩=some (.int .i64 p.crop):=A1.out.pl.cell 7;have azz:=A1.out.pl.lt;clear hb1)
   | (go_at_call 90;refine (HCR.out _ A1.out.below).mono ?_;rintro e w2 ⟨rfl,hb2⟩;have A2:=hid (A1.out.beh hb2);have b0:w2.cell? ⟨w.heap.size,0,none⟩=some (.int .i64 p.year):=A2.out.pl.cell 0;have b1:w2.cell? ⟨w.heap.size,1,none⟩=some (.slice p.cr.a p.cr.n p.cr.c):=A2.out.pl.cell 1;have b2:w2.cell? ⟨w.heap.size,2,none⟩=some (.slice p.hi.a p.hi.n p.hi.c):=A2.out.pl.cell 2;have b3:w2.cell? ⟨w.heap.size,3,none⟩=some (.slice p.zo.a p.zo.n p.zo.c):=A2.out.pl.cell 3;have b4:w2.cell? ⟨w.heap.size,4,none⟩=some (.int .i64 p.day):=A2.out.pl.cell 4;have b6:w2.cell? ⟨w.heap.size,6,none⟩=some (.slice p.rc.a p.rc.n p.rc.c):=A2.out.pl.cell 6;have b7:w2.cell? ⟨w.heap.size,7,none⟩=some (.int .i64 p.crop):=A2.out.pl.cell 7;have bzz:=A2.out.pl.lt;clear hb2)
   | (go_at_call 91;refine (HC1.out _ (bc1 Bw.out b1)).mono ?_;rintro e w3 ⟨rfl,hb3⟩;have hq3:Below w2.heap.size w2 w3:=btr Bw.out hb3;have A3:=hid (A2.out.beh hq3);have k7:w3.cell? ⟨w2.heap.size,0,none⟩=some (.func (.func 91) #[] #[.pointer (some ⟨w.heap.size,0,none⟩)]):=bc1 hb3 (by simp [go_sem]);have c0:w3.cell? ⟨w.heap.size,0,none⟩=some (.int .i64 p.year):=A3.out.pl.cell 0;have c1:w3.cell? ⟨w.heap.size,1,none⟩=some (.slice p.cr.a p.cr.n p.cr.c):=A3.out.pl.cell 1;have c2:w3.cell? ⟨w.heap.size,2,none⟩=some (.slice p.hi.a p.hi.n p.hi.c):=A3.out.pl.cell 2;have c3:w3.cell? ⟨w.heap.size,3,none⟩=some (.slice p.zo.a p.zo.n p.zo.c):=A3.out.pl.cell 3;have c4:w3.cell? ⟨w.heap.size,4,none⟩=some (.int .i64 p.day):=A3.out.pl.cell 4;have c6:w3.cell? ⟨w.heap.size,6,none⟩=some (.slice p.rc.a p.rc.n p.rc.c):=A3.out.pl.cell 6;have c7:w3.cell? ⟨w.heap.size,7,none⟩=some (.int .i64 p.crop):=A3.out.pl.cell 7;have czz:=A3.out.pl.lt;clear hb3)
   | (go_at_call 92;refine (HCF.out _ _ A3.out.below k7 c1).mono ?_;rintro e w4 ⟨rfl,hb4⟩;have A4:=hid (A3.out.beh hb4);have d0:w4.cell? ⟨w.heap.size,0,none⟩=some (.int .i64 p.year):=A4.out.pl.cell 0;have d1:w4.cell? ⟨w.heap.size,1,none⟩=some (.slice p.cr.a p.cr.n p.cr.c):=A4.out.pl.cell 1;have d2:w4.cell? ⟨w.heap.size,2,none⟩=some (.slice p.hi.a p.hi.n p.hi.c):=A4.out.pl.cell 2;have d3:w4.cell? ⟨w.heap.size,3,none⟩=some (.slice p.zo.a p.zo.n p.zo.c):=A4.out.pl.cell 3;have d4:w4.cell? ⟨w.heap.size,4,none⟩=some (.int .i64 p.day):=A4.out.pl.cell 4;have d6:w4.cell? ⟨w.heap.size,6,none⟩=some (.slice p.rc.a p.rc.n p.rc.c):=A4.out.pl.cell 6;have d7:w4.cell? ⟨w.heap.size,7,none⟩=some (.int .i64 p.crop):=A4.out.pl.cell 7;have dzz:=A4.out.pl.lt;clear hb4)
   | (go_at_call 94;refine (HH.out _ A4.out.below).mono ?_;rintro e w5 ⟨rfl,hb5⟩;have A5:=hid (A4.out.beh hb5);have e0:w5.cell? ⟨w.heap.size,0,none⟩=some (.int .i64 p.year):=A5.out.pl.cell 0;have e1:w5.cell? ⟨w.heap.size,1,none⟩=some (.slice p.cr.a p.cr.n p.cr.c):=A5.out.pl.cell 1;have e2:w5.cell? ⟨w.heap.size,2,none⟩=some (.slice p.hi.a p.hi.n p.hi.c):=A5.out.pl.cell 2;have e3:w5.cell? ⟨w.heap.size,3,none⟩=some (.slice p.zo.a p.zo.n p.zo.c):=A5.out.pl.cell 3;have e4:w5.cell? ⟨w.heap.size,4,none⟩=some (.int .i64 p.day):=A5.out.pl.cell 4;have e6:w5.cell? ⟨w.heap.size,6,none⟩=some (.slice p.rc.a p.rc.n p.rc.c):=A5.out.pl.cell 6;have e7:w5.cell? ⟨w.heap.size,7,none⟩=some (.int .i64 p.crop):=A5.out.pl.cell 7;have ezz:=A5.out.pl.lt;clear hb5))
  go_ret
  exact ⟨ret_int (by rw [← EV.out];unfold evF;rw [if_neg (by decide),if_neg (by decide),if_neg (by decide),if_pos H4.out]),A5.out.below⟩
 subst h4
 by_cases h5:p.year<0
 ·have H5:=hid h5
  go_enter Tryz.func52,Tryz.ntmps52
  go_wp2_with (first
   | (refine wpList_load_row rfl 24 (.tmp 3) rfl (w.heap.size+1) rfl _ tb _ _ (AX.out _ A0.out).2 Tryz.underlying24 rfl TI.out ?_)
   | (go_at_call 40;refine (HCH.out _ A0.out.below).mono ?_;rintro e w1 ⟨rfl,hb1⟩;have A1:=hid (A0.out.beh hb1);have a0:w1.cell? ⟨w.heap.size,0,none⟩=some (.int .i64 p.year):=A1.out.pl.cell 0;have a1:w1.cell? ⟨w.heap.size,1,none⟩=some (.slice p.cr.a p.cr.n p.cr.c):=A1.out.pl.cell 1;have a2:w1.cell? ⟨w.heap.size,2,none⟩=some (.slice p.hi.a p.hi.n p.hi.c):=A1.out.pl.cell 2;have a3:w1.cell? ⟨w.heap.size,3,none⟩=some (.slice p.zo.a p.zo.n p.zo.c):=A1.out.pl.cell 3;have a4:w1.cell? ⟨w.heap.size,4,none⟩=some (.int .i64 p.day):=A1.out.pl.cell 4;have a6:w1.cell? ⟨w.heap.size,6,none⟩=some (.slice p.rc.a p.rc.n p.rc.c):=A1.out.pl.cell 6;have a7:w1.cell? ⟨w.heap.size,7,none⟩=some (.int .i64 p.crop):=A1.out.pl.cell 7;have azz:=A1.out.pl.lt;clear hb1)
   | (go_at_call 90;refine (HCR.out _ A1.out.below).mono ?_;rintro e w2 ⟨rfl,hb2⟩;have A2:=hid (A1.out.beh hb2);have b0:w2.cell? ⟨w.heap.size,0,none⟩=some (.int .i64 p.year):=A2.out.pl.cell 0;have b1:w2.cell? ⟨w.heap.size,1,none⟩=some (.slice p.cr.a p.cr.n p.cr.c):=A2.out.pl.cell 1;have b2:w2.cell? ⟨w.heap.size,2,none⟩=some (.slice p.hi.a p.hi.n p.hi.c):=A2.out.pl.cell 2;have b3:w2.cell? ⟨w.heap.size,3,none⟩=some (.slice p.zo.a p.zo.n p.zo.c):=A2.out.pl.cell 3;have b4:w2.cell? ⟨w.heap.size,4,none⟩=some (.int .i64 p.day):=A2.out.pl.cell 4;have b6:w2.cell? ⟨w.heap.size,6,none⟩=some (.slice p.rc.a p.rc.n p.rc.c):=A2.out.pl.cell 6;have b7:w2.cell? ⟨w.heap.size,7,none⟩=some (.int .i64 p.crop):=A2.out.pl.cell 7;have bzz:=A2.out.pl.lt;clear hb2)
   | (go_at_call 91;refine (HC1.out _ (bc1 Bw.out b1)).mono ?_;rintro e w3 ⟨rfl,hb3⟩;have hq3:Below w2.heap.size w2 w3:=btr Bw.out hb3;have A3:=hid (A2.out.beh hq3);have k7:w3.cell? ⟨w2.heap.size,0,none⟩=some (.func (.func 91) #[] #[.pointer (some ⟨w.heap.size,0,none⟩)]):=bc1 hb3 (by simp [go_sem]);have c0:w3.cell? ⟨w.heap.size,0,none⟩=some (.int .i64 p.year):=A3.out.pl.cell 0;have c1:w3.cell? ⟨w.heap.size,1,none⟩=some (.slice p.cr.a p.cr.n p.cr.c):=A3.out.pl.cell 1;have c2:w3.cell? ⟨w.heap.size,2,none⟩=some (.slice p.hi.a p.hi.n p.hi.c):=A3.out.pl.cell 2;have c3:w3.cell? ⟨w.heap.size,3,none⟩=some (.slice p.zo.a p.zo.n p.zo.c):=A3.out.pl.cell 3;have c4:w3.cell? ⟨w.heap.size,4,none⟩=some (.int .i64 p.day):=A3.out.pl.cell 4;have c6:w3.cell? ⟨w.heap.size,6,none⟩=some (.slice p.rc.a p.rc.n p.rc.c):=A3.out.pl.cell 6;have c7:w3.cell? ⟨w.heap.size,7,none⟩=some (.int .i64 p.crop):=A3.out.pl.cell 7;have czz:=A3.out.pl.lt;clear hb3)
   | (go_at_call 92;refine (HCF.out _ _ A3.out.below k7 c1).mono ?_;rintro e w4 ⟨rfl,hb4⟩;have A4:=hid (A3.out.beh hb4);have d0:w4.cell? ⟨w.heap.size,0,none⟩=some (.int .i64 p.year):=A4.out.pl.cell 0;have d1:w4.cell? ⟨w.heap.size,1,none⟩=some (.slice p.cr.a p.cr.n p.cr.c):=A4.out.pl.cell 1;have d2:w4.cell? ⟨w.heap.size,2,none⟩=some (.slice p.hi.a p.hi.n p.hi.c):=A4.out.pl.cell 2;have d3:w4.cell? ⟨w.heap.size,3,none⟩=some (.slice p.zo.a p.zo.n p.zo.c):=A4.out.pl.cell 3;have d4:w4.cell? ⟨w.heap.size,4,none⟩=some (.int .i64 p.day):=A4.out.pl.cell 4;have d6:w4.cell? ⟨w.heap.size,6,none⟩=some (.slice p.rc.a p.rc.n p.rc.c):=A4.out.pl.cell 6;have d7:w4.cell? ⟨w.heap.size,7,none⟩=some (.int .i64 p.crop):=A4.out.pl.cell 7;have dzz:=A4.out.pl.lt;clear hb4)
   | (go_at_call 94;refine (HH.out _ A4.out.below).mono ?_;rintro e w5 ⟨rfl,hb5⟩;have A5:=hid (A4.out.beh hb5);have e0:w5.cell? ⟨w.heap.size,0,none⟩=some (.int .i64 p.year):=A5.out.pl.cell 0;have e1:w5.cell? ⟨w.heap.size,1,none⟩=some (.slice p.cr.a p.cr.n p.cr.c):=A5.out.pl.cell 1;have e2:w5.cell? ⟨w.heap.size,2,none⟩=some (.slice p.hi.a p.hi.n p.hi.c):=A5.out.pl.cell 2;have e3:w5.cell? ⟨w.heap.size,3,none⟩=some (.slice p.zo.a p.zo.n p.zo.c):=A5.out.pl.cell 3;have e4:w5.cell? ⟨w.heap.size,4,none⟩=some (.int .i64 p.day):=A5.out.pl.cell 4;have e6:w5.cell? ⟨w.heap.size,6,none⟩=some (.slice p.rc.a p.rc.n p.rc.c):=A5.out.pl.cell 6;have e7:w5.cell? ⟨w.heap.size,7,none⟩=some (.int .i64 p.crop):=A5.out.pl.cell 7;have ezz:=A5.out.pl.lt;clear hb5))
  go_ret
  exact ⟨ret_int (by rw [← EV.out];unfold evF;rw [if_neg (by decide),if_neg (by decide),if_neg (by decide),if_neg (by decide),if_pos (.inl H5.out)]),A5.out.below⟩
 by_cases h6:100<p.year
 ·have H6:=hid h6
  go_enter Tryz.func52,Tryz.ntmps52
  go_wp2_with (first
   | (refine wpList_load_row rfl 24 (.tmp 3) rfl (w.heap.size+1) rfl _ tb _ _ (AX.out _ A0.out).2 Tryz.underlying24 rfl TI.out ?_)
   | (go_at_call 40;refine (HCH.out _ A0.out.below).mono ?_;rintro e w1 ⟨rfl,hb1⟩;have A1:=hid (A0.out.beh hb1);have a0:w1.cell? ⟨w.heap.size,0,none⟩=some (.int .i64 p.year):=A1.out.pl.cell 0;have a1:w1.cell? ⟨w.heap.size,1,none⟩=some (.slice p.cr.a p.cr.n p.cr.c):=A1.out.pl.cell 1;have a2:w1.cell? ⟨w.heap.size,2,none⟩=some (.slice p.hi.a p.hi.n p.hi.c):=A1.out.pl.cell 2;have a3:w1.cell? ⟨w.heap.size,3,none⟩=some (.slice p.zo.a p.zo.n p.zo.c):=A1.out.pl.cell 3;have a4:w1.cell? ⟨w.heap.size,4,none⟩=some (.int .i64 p.day):=A1.out.pl.cell 4;have a6:w1.cell? ⟨w.heap.size,6,none⟩=some (.slice p.rc.a p.rc.n p.rc.c):=A1.out.pl.cell 6;have a7:w1.cell? ⟨w.heap.size,7,none⟩=some (.int .i64 p.crop):=A1.out.pl.cell 7;have azz:=A1.out.pl.lt;clear hb1)
   | (go_at_call 90;refine (HCR.out _ A1.out.below).mono ?_;rintro e w2 ⟨rfl,hb2⟩;have A2:=hid (A1.out.beh hb2);have b0:w2.cell? ⟨w.heap.size,0,none⟩=some (.int .i64 p.year):=A2.out.pl.cell 0;have b1:w2.cell? ⟨w.heap.size,1,none⟩=some (.slice p.cr.a p.cr.n p.cr.c):=A2.out.pl.cell 1;have b2:w2.cell? ⟨w.heap.size,2,none⟩=some (.slice p.hi.a p.hi.n p.hi.c):=A2.out.pl.cell 2;have b3:w2.cell? ⟨w.heap.size,3,none⟩=some (.slice p.zo.a p.zo.n p.zo.c):=A2.out.pl.cell 3;have b4:w2.cell? ⟨w.heap.size,4,none⟩=some (.int .i64 p.day):=A2.out.pl.cell 4;have b6:w2.cell? ⟨w.heap.size,6,none⟩=some (.slice p.rc.a p.rc.n p.rc.c):=A2.out.pl.cell 6;have b7:w2.cell? ⟨w.heap.size,7,none⟩=some (.int .i64 p.crop):=A2.out.pl.cell 7;have bzz:=A2.out.pl.lt;clear hb2)
   | (go_at_call 91;refine (HC1.out _ (bc1 Bw.out b1)).mono ?_;rintro e w3 ⟨rfl,hb3⟩;have hq3:Below w2.heap.size w2 w3:=btr Bw.out hb3;have A3:=hid (A2.out.beh hq3);have k7:w3.cell? ⟨w2.heap.size,0,none⟩=some (.func (.func 91) #[] #[.pointer (some ⟨w.heap.size,0,none⟩)]):=bc1 hb3 (by simp [go_sem]);have c0:w3.cell? ⟨w.heap.size,0,none⟩=some (.int .i64 p.year):=A3.out.pl.cell 0;have c1:w3.cell? ⟨w.heap.size,1,none⟩=some (.slice p.cr.a p.cr.n p.cr.c):=A3.out.pl.cell 1;have c2:w3.cell? ⟨w.heap.size,2,none⟩=some (.slice p.hi.a p.hi.n p.hi.c):=A3.out.pl.cell 2;have c3:w3.cell? ⟨w.heap.size,3,none⟩=some (.slice p.zo.a p.zo.n p.zo.c):=A3.out.pl.cell 3;have c4:w3.cell? ⟨w.heap.size,4,none⟩=some (.int .i64 p.day):=A3.out.pl.cell 4;have c6:w3.cell? ⟨w.heap.size,6,none⟩=some (.slice p.rc.a p.rc.n p.rc.c):=A3.out.pl.cell 6;have c7:w3.cell? ⟨w.heap.size,7,none⟩=some (.int .i64 p.crop):=A3.out.pl.cell 7;have czz:=A3.out.pl.lt;clear hb3)
   | (go_at_call 92;refine (HCF.out _ _ A3.out.below k7 c1).mono ?_;rintro e w4 ⟨rfl,hb4⟩;have A4:=hid (A3.out.beh hb4);have d0:w4.cell? ⟨w.heap.size,0,none⟩=some (.int .i64 p.year):=A4.out.pl.cell 0;have d1:w4.cell? ⟨w.heap.size,1,none⟩=some (.slice p.cr.a p.cr.n p.cr.c):=A4.out.pl.cell 1;have d2:w4.cell? ⟨w.heap.size,2,none⟩=some (.slice p.hi.a p.hi.n p.hi.c):=A4.out.pl.cell 2;have d3:w4.cell? ⟨w.heap.size,3,none⟩=some (.slice p.zo.a p.zo.n p.zo.c):=A4.out.pl.cell 3;have d4:w4.cell? ⟨w.heap.size,4,none⟩=some (.int .i64 p.day):=A4.out.pl.cell 4;have d6:w4.cell? ⟨w.heap.size,6,none⟩=some (.slice p.rc.a p.rc.n p.rc.c):=A4.out.pl.cell 6;have d7:w4.cell? ⟨w.heap.size,7,none⟩=some (.int .i64 p.crop):=A4.out.pl.cell 7;have dzz:=A4.out.pl.lt;clear hb4)
   | (go_at_call 94;refine (HH.out _ A4.out.below).mono ?_;rintro e w5 ⟨rfl,hb5⟩;have A5:=hid (A4.out.beh hb5);have e0:w5.cell? ⟨w.heap.size,0,none⟩=some (.int .i64 p.year):=A5.out.pl.cell 0;have e1:w5.cell? ⟨w.heap.size,1,none⟩=some (.slice p.cr.a p.cr.n p.cr.c):=A5.out.pl.cell 1;have e2:w5.cell? ⟨w.heap.size,2,none⟩=some (.slice p.hi.a p.hi.n p.hi.c):=A5.out.pl.cell 2;have e3:w5.cell? ⟨w.heap.size,3,none⟩=some (.slice p.zo.a p.zo.n p.zo.c):=A5.out.pl.cell 3;have e4:w5.cell? ⟨w.heap.size,4,none⟩=some (.int .i64 p.day):=A5.out.pl.cell 4;have e6:w5.cell? ⟨w.heap.size,6,none⟩=some (.slice p.rc.a p.rc.n p.rc.c):=A5.out.pl.cell 6;have e7:w5.cell? ⟨w.heap.size,7,none⟩=some (.int .i64 p.crop):=A5.out.pl.cell 7;have ezz:=A5.out.pl.lt;clear hb5))
  go_ret
  exact ⟨ret_int (by rw [← EV.out];unfold evF;rw [if_neg (by decide),if_neg (by decide),if_neg (by decide),if_neg (by decide),if_pos (.inr H6.out)]),A5.out.below⟩
 have H56:RowKit.Hid (¬ (p.year<0∨100<p.year)):=by show ¬ _;omega
 by_cases h7:x7=0
 case neg =>
  have q7:((x7:Int) == 0)=false:=by simpa using h7
  have H7:=hid h7
  clear h7
  go_enter Tryz.func52,Tryz.ntmps52
  go_wp2_with (first
   | (refine wpList_load_row rfl 24 (.tmp 3) rfl (w.heap.size+1) rfl _ tb _ _ (AX.out _ A0.out).2 Tryz.underlying24 rfl TI.out ?_)
   | (go_at_call 40;refine (HCH.out _ A0.out.below).mono ?_;rintro e w1 ⟨rfl,hb1⟩;have A1:=hid (A0.out.beh hb1);have a0:w1.cell? ⟨w.heap.size,0,none⟩=some (.int .i64 p.year):=A1.out.pl.cell 0;have a1:w1.cell? ⟨w.heap.size,1,none⟩=some (.slice p.cr.a p.cr.n p.cr.c):=A1.out.pl.cell 1;have a2:w1.cell? ⟨w.heap.size,2,none⟩=some (.slice p.hi.a p.hi.n p.hi.c):=A1.out.pl.cell 2;have a3:w1.cell? ⟨w.heap.size,3,none⟩=some (.slice p.zo.a p.zo.n p.zo.c):=A1.out.pl.cell 3;have a4:w1.cell? ⟨w.heap.size,4,none⟩=some (.int .i64 p.day):=A1.out.pl.cell 4;have a6:w1.cell? ⟨w.heap.size,6,none⟩=some (.slice p.rc.a p.rc.n p.rc.c):=A1.out.pl.cell 6;have a7:w1.cell? ⟨w.heap.size,7,none⟩=some (.int .i64 p.crop):=A1.out.pl.cell 7;have azz:=A1.out.pl.lt;clear hb1)
   | (go_at_call 90;refine (HCR.out _ A1.out.below).mono ?_;rintro e w2 ⟨rfl,hb2⟩;have A2:=hid (A1.out.beh hb2);have b0:w2.cell? ⟨w.heap.size,0,none⟩=some (.int .i64 p.year):=A2.out.pl.cell 0;have b1:w2.cell? ⟨w.heap.size,1,none⟩=some (.slice p.cr.a p.cr.n p.cr.c):=A2.out.pl.cell 1;have b2:w2.cell? ⟨w.heap.size,2,none⟩=some (.slice p.hi.a p.hi.n p.hi.c):=A2.out.pl.cell 2;have b3:w2.cell? ⟨w.heap.size,3,none⟩=some (.slice p.zo.a p.zo.n p.zo.c):=A2.out.pl.cell 3;have b4:w2.cell? ⟨w.heap.size,4,none⟩=some (.int .i64 p.day):=A2.out.pl.cell 4;have b6:w2.cell? ⟨w.heap.size,6,none⟩=some (.slice p.rc.a p.rc.n p.rc.c):=A2.out.pl.cell 6;have b7:w2.cell? ⟨w.heap.size,7,none⟩=some (.int .i64 p.crop):=A2.out.pl.cell 7;have bzz:=A2.out.pl.lt;clear hb2)
   | (go_at_call 91;refine (HC1.out _ (bc1 Bw.out b1)).mono ?_;rintro e w3 ⟨rfl,hb3⟩;have hq3:Below w2.heap.size w2 w3:=btr Bw.out hb3;have A3:=hid (A2.out.beh hq3);have k7:w3.cell? ⟨w2.heap.size,0,none⟩=some (.func (.func 91) #[] #[.pointer (some ⟨w.heap.size,0,none⟩)]):=bc1 hb3 (by simp [go_sem]);have c0:w3.cell? ⟨w.heap.size,0,none⟩=some (.int .i64 p.year):=A3.out.pl.cell 0;have c1:w3.cell? ⟨w.heap.size,1,none⟩=some (.slice p.cr.a p.cr.n p.cr.c):=A3.out.pl.cell 1;have c2:w3.cell? ⟨w.heap.size,2,none⟩=some (.slice p.hi.a p.hi.n p.hi.c):=A3.out.pl.cell 2;have c3:w3.cell? ⟨w.heap.size,3,none⟩=some (.slice p.zo.a p.zo.n p.zo.c):=A3.out.pl.cell 3;have c4:w3.cell? ⟨w.heap.size,4,none⟩=some (.int .i64 p.day):=A3.out.pl.cell 4;have c6:w3.cell? ⟨w.heap.size,6,none⟩=some (.slice p.rc.a p.rc.n p.rc.c):=A3.out.pl.cell 6;have c7:w3.cell? ⟨w.heap.size,7,none⟩=some (.int .i64 p.crop):=A3.out.pl.cell 7;have czz:=A3.out.pl.lt;clear hb3)
   | (go_at_call 92;refine (HCF.out _ _ A3.out.below k7 c1).mono ?_;rintro e w4 ⟨rfl,hb4⟩;have A4:=hid (A3.out.beh hb4);have d0:w4.cell? ⟨w.heap.size,0,none⟩=some (.int .i64 p.year):=A4.out.pl.cell 0;have d1:w4.cell? ⟨w.heap.size,1,none⟩=some (.slice p.cr.a p.cr.n p.cr.c):=A4.out.pl.cell 1;have d2:w4.cell? ⟨w.heap.size,2,none⟩=some (.slice p.hi.a p.hi.n p.hi.c):=A4.out.pl.cell 2;have d3:w4.cell? ⟨w.heap.size,3,none⟩=some (.slice p.zo.a p.zo.n p.zo.c):=A4.out.pl.cell 3;have d4:w4.cell? ⟨w.heap.size,4,none⟩=some (.int .i64 p.day):=A4.out.pl.cell 4;have d6:w4.cell? ⟨w.heap.size,6,none⟩=some (.slice p.rc.a p.rc.n p.rc.c):=A4.out.pl.cell 6;have d7:w4.cell? ⟨w.heap.size,7,none⟩=some (.int .i64 p.crop):=A4.out.pl.cell 7;have dzz:=A4.out.pl.lt;clear hb4)
   | (go_at_call 94;refine (HH.out _ A4.out.below).mono ?_;rintro e w5 ⟨rfl,hb5⟩;have A5:=hid (A4.out.beh hb5);have e0:w5.cell? ⟨w.heap.size,0,none⟩=some (.int .i64 p.year):=A5.out.pl.cell 0;have e1:w5.cell? ⟨w.heap.size,1,none⟩=some (.slice p.cr.a p.cr.n p.cr.c):=A5.out.pl.cell 1;have e2:w5.cell? ⟨w.heap.size,2,none⟩=some (.slice p.hi.a p.hi.n p.hi.c):=A5.out.pl.cell 2;have e3:w5.cell? ⟨w.heap.size,3,none⟩=some (.slice p.zo.a p.zo.n p.zo.c):=A5.out.pl.cell 3;have e4:w5.cell? ⟨w.heap.size,4,none⟩=some (.int .i64 p.day):=A5.out.pl.cell 4;have e6:w5.cell? ⟨w.heap.size,6,none⟩=some (.slice p.rc.a p.rc.n p.rc.c):=A5.out.pl.cell 6;have e7:w5.cell? ⟨w.heap.size,7,none⟩=some (.int .i64 p.crop):=A5.out.pl.cell 7;have ezz:=A5.out.pl.lt;clear hb5)
   | (go_at_call 95;refine (HO.out _ A5.out.below).mono ?_;rintro e w6 ⟨oa,on,oc,rfl,hb6⟩;have A6:=hid (A5.out.beh hb6);have f0:w6.cell? ⟨w.heap.size,0,none⟩=some (.int .i64 p.year):=A6.out.pl.cell 0;have f1:w6.cell? ⟨w.heap.size,1,none⟩=some (.slice p.cr.a p.cr.n p.cr.c):=A6.out.pl.cell 1;have f2:w6.cell? ⟨w.heap.size,2,none⟩=some (.slice p.hi.a p.hi.n p.hi.c):=A6.out.pl.cell 2;have f3:w6.cell? ⟨w.heap.size,3,none⟩=some (.slice p.zo.a p.zo.n p.zo.c):=A6.out.pl.cell 3;have f4:w6.cell? ⟨w.heap.size,4,none⟩=some (.int .i64 p.day):=A6.out.pl.cell 4;have f6:w6.cell? ⟨w.heap.size,6,none⟩=some (.slice p.rc.a p.rc.n p.rc.c):=A6.out.pl.cell 6;have f7:w6.cell? ⟨w.heap.size,7,none⟩=some (.int .i64 p.crop):=A6.out.pl.cell 7;have fzz:=A6.out.pl.lt;clear hb6))
  go_ret
  exact ⟨ret_int (by rw [← EV.out];unfold evF;rw [if_neg (by decide),if_neg (by decide),if_neg (by decide),if_neg (by decide),if_neg H56.out,if_pos H7.out]),A6.out.below⟩
 subst h7
 cases b8 with
 | true =>
  go_enter Tryz.func52,Tryz.ntmps52
  go_wp2_with (first
   | (refine wpList_load_row rfl 24 (.tmp 3) rfl (w.heap.size+1) rfl _ tb _ _ (AX.out _ A0.out).2 Tryz.underlying24 rfl TI.out ?_)
   | (go_at_call 40;refine (HCH.out _ A0.out.below).mono ?_;rintro e w1 ⟨rfl,hb1⟩;have A1:=hid (A0.out.beh hb1);have a0:w1.cell? ⟨w.heap.size,0,none⟩=some (.int .i64 p.year):=A1.out.pl.cell 0;have a1:w1.cell? ⟨w.heap.size,1,none⟩=some (.slice p.cr.a p.cr.n p.cr.c):=A1.out.pl.cell 1;have a2:w1.cell? ⟨w.heap.size,2,none⟩=some (.slice p.hi.a p.hi.n p.hi.c):=A1.out.pl.cell 2;have a3:w1.cell? ⟨w.heap.size,3,none⟩=some (.slice p.zo.a p.zo.n p.zo.c):=A1.out.pl.cell 3;have a4:w1.cell? ⟨w.heap.size,4,none⟩=some (.int .i64 p.day):=A1.out.pl.cell 4;have a6:w1.cell? ⟨w.heap.size,6,none⟩=some (.slice p.rc.a p.rc.n p.rc.c):=A1.out.pl.cell 6;have a7:w1.cell? ⟨w.heap.size,7,none⟩=some (.int .i64 p.crop):=A1.out.pl.cell 7;have azz:=A1.out.pl.lt;clear hb1)
   | (go_at_call 90;refine (HCR.out _ A1.out.below).mono ?_;rintro e w2 ⟨rfl,hb2⟩;have A2:=hid (A1.out.beh hb2);have b0:w2.cell? ⟨w.heap.size,0,none⟩=some (.int .i64 p.year):=A2.out.pl.cell 0;have b1:w2.cell? ⟨w.heap.size,1,none⟩=some (.slice p.cr.a p.cr.n p.cr.c):=A2.out.pl.cell 1;have b2:w2.cell? ⟨w.heap.size,2,none⟩=some (.slice p.hi.a p.hi.n p.hi.c):=A2.out.pl.cell 2;have b3:w2.cell? ⟨w.heap.size,3,none⟩=some (.slice p.zo.a p.zo.n p.zo.c):=A2.out.pl.cell 3;have b4:w2.cell? ⟨w.heap.size,4,none⟩=some (.int .i64 p.day):=A2.out.pl.cell 4;have b6:w2.cell? ⟨w.heap.size,6,none⟩=some (.slice p.rc.a p.rc.n p.rc.c):=A2.out.pl.cell 6;have b7:w2.cell? ⟨w.heap.size,7,none⟩=some (.int .i64 p.crop):=A2.out.pl.cell 7;have bzz:=A2.out.pl.lt;clear hb2)
   | (go_at_call 91;refine (HC1.out _ (bc1 Bw.out b1)).mono ?_;rintro e w3 ⟨rfl,hb3⟩;have hq3:Below w2.heap.size w2 w3:=btr Bw.out hb3;have A3:=hid (A2.out.beh hq3);have k7:w3.cell? ⟨w2.heap.size,0,none⟩=some (.func (.func 91) #[] #[.pointer (some ⟨w.heap.size,0,none⟩)]):=bc1 hb3 (by simp [go_sem]);have c0:w3.cell? ⟨w.heap.size,0,none⟩=some (.int .i64 p.year):=A3.out.pl.cell 0;have c1:w3.cell? ⟨w.heap.size,1,none⟩=some (.slice p.cr.a p.cr.n p.cr.c):=A3.out.pl.cell 1;have c2:w3.cell? ⟨w.heap.size,2,none⟩=some (.slice p.hi.a p.hi.n p.hi.c):=A3.out.pl.cell 2;have c3:w3.cell? ⟨w.heap.size,3,none⟩=some (.slice p.zo.a p.zo.n p.zo.c):=A3.out.pl.cell 3;have c4:w3.cell? ⟨w.heap.size,4,none⟩=some (.int .i64 p.day):=A3.out.pl.cell 4;have c6:w3.cell? ⟨w.heap.size,6,none⟩=some (.slice p.rc.a p.rc.n p.rc.c):=A3.out.pl.cell 6;have c7:w3.cell? ⟨w.heap.size,7,none⟩=some (.int .i64 p.crop):=A3.out.pl.cell 7;have czz:=A3.out.pl.lt;clear hb3)
   | (go_at_call 92;refine (HCF.out _ _ A3.out.below k7 c1).mono ?_;rintro e w4 ⟨rfl,hb4⟩;have A4:=hid (A3.out.beh hb4);have d0:w4.cell? ⟨w.heap.size,0,none⟩=some (.int .i64 p.year):=A4.out.pl.cell 0;have d1:w4.cell? ⟨w.heap.size,1,none⟩=some (.slice p.cr.a p.cr.n p.cr.c):=A4.out.pl.cell 1;have d2:w4.cell? ⟨w.heap.size,2,none⟩=some (.slice p.hi.a p.hi.n p.hi.c):=A4.out.pl.cell 2;have d3:w4.cell? ⟨w.heap.size,3,none⟩=some (.slice p.zo.a p.zo.n p.zo.c):=A4.out.pl.cell 3;have d4:w4.cell? ⟨w.heap.size,4,none⟩=some (.int .i64 p.day):=A4.out.pl.cell 4;have d6:w4.cell? ⟨w.heap.size,6,none⟩=some (.slice p.rc.a p.rc.n p.rc.c):=A4.out.pl.cell 6;have d7:w4.cell? ⟨w.heap.size,7,none⟩=some (.int .i64 p.crop):=A4.out.pl.cell 7;have dzz:=A4.out.pl.lt;clear hb4)
   | (go_at_call 94;refine (HH.out _ A4.out.below).mono ?_;rintro e w5 ⟨rfl,hb5⟩;have A5:=hid (A4.out.beh hb5);have e0:w5.cell? ⟨w.heap.size,0,none⟩=some (.int .i64 p.year):=A5.out.pl.cell 0;have e1:w5.cell? ⟨w.heap.size,1,none⟩=some (.slice p.cr.a p.cr.n p.cr.c):=A5.out.pl.cell 1;have e2:w5.cell? ⟨w.heap.size,2,none⟩=some (.slice p.hi.a p.hi.n p.hi.c):=A5.out.pl.cell 2;have e3:w5.cell? ⟨w.heap.size,3,none⟩=some (.slice p.zo.a p.zo.n p.zo.c):=A5.out.pl.cell 3;have e4:w5.cell? ⟨w.heap.size,4,none⟩=some (.int .i64 p.day):=A5.out.pl.cell 4;have e6:w5.cell? ⟨w.heap.size,6,none⟩=some (.slice p.rc.a p.rc.n p.rc.c):=A5.out.pl.cell 6;have e7:w5.cell? ⟨w.heap.size,7,none⟩=some (.int .i64 p.crop):=A5.out.pl.cell 7;have ezz:=A5.out.pl.lt;clear hb5)
   | (go_at_call 95;refine (HO.out _ A5.out.below).mono ?_;rintro e w6 ⟨oa,on,oc,rfl,hb6⟩;have A6:=hid (A5.out.beh hb6);have f0:w6.cell? ⟨w.heap.size,0,none⟩=some (.int .i64 p.year):=A6.out.pl.cell 0;have f1:w6.cell? ⟨w.heap.size,1,none⟩=some (.slice p.cr.a p.cr.n p.cr.c):=A6.out.pl.cell 1;have f2:w6.cell? ⟨w.heap.size,2,none⟩=some (.slice p.hi.a p.hi.n p.hi.c):=A6.out.pl.cell 2;have f3:w6.cell? ⟨w.heap.size,3,none⟩=some (.slice p.zo.a p.zo.n p.zo.c):=A6.out.pl.cell 3;have f4:w6.cell? ⟨w.heap.size,4,none⟩=some (.int .i64 p.day):=A6.out.pl.cell 4;have f6:w6.cell? ⟨w.heap.size,6,none⟩=some (.slice p.rc.a p.rc.n p.rc.c):=A6.out.pl.cell 6;have f7:w6.cell? ⟨w.heap.size,7,none⟩=some (.int .i64 p.crop):=A6.out.pl.cell 7;have fzz:=A6.out.pl.lt;clear hb6)
   | (go_at_call 96;refine (HV8.out _ A6.out.below).mono ?_;rintro e w7 ⟨rfl,hb7⟩;have A7:=hid (A6.out.beh hb7);clear hb7))
  go_ret
  exact ⟨ret_int (by rw [← EV.out];unfold evF;rw [if_neg (by decide),if_neg (by decide),if_neg (by decide),if_neg (by decide),if_neg H56.out,if_neg (by decide),if_pos rfl]),A7.out.below⟩
 | false =>
  go_enter Tryz.func52,Tryz.ntmps52
  go_wp2_with (first
   | (refine wpList_load_row rfl 24 (.tmp 3) rfl (w.heap.size+1) rfl _ tb _ _ (AX.out _ A0.out).2 Tryz.underlying24 rfl TI.out ?_)
   | (go_at_call 40;refine (HCH.out _ A0.out.below).mono ?_;rintro e w1 ⟨rfl,hb1⟩;have A1:=hid (A0.out.beh hb1);have a0:w1.cell? ⟨w.heap.size,0,none⟩=some (.int .i64 p.year):=A1.out.pl.cell 0;have a1:w1.cell? ⟨w.heap.size,1,none⟩=some (.slice p.cr.a p.cr.n p.cr.c):=A1.out.pl.cell 1;have a2:w1.cell? ⟨w.heap.size,2,none⟩=some (.slice p.hi.a p.hi.n p.hi.c):=A1.out.pl.cell 2;have a3:w1.cell? ⟨w.heap.size,3,none⟩=some (.slice p.zo.a p.zo.n p.zo.c):=A1.out.pl.cell 3;have a4:w1.cell? ⟨w.heap.size,4,none⟩=some (.int .i64 p.day):=A1.out.pl.cell 4;have a6:w1.cell? ⟨w.heap.size,6,none⟩=some (.slice p.rc.a p.rc.n p.rc.c):=A1.out.pl.cell 6;have a7:w1.cell? ⟨w.heap.size,7,none⟩=some (.int .i64 p.crop):=A1.out.pl.cell 7;have azz:=A1.out.pl.lt;clear hb1)
   | (go_at_call 90;refine (HCR.out _ A1.out.below).mono ?_;rintro e w2 ⟨rfl,hb2⟩;have A2:=hid (A1.out.beh hb2);have b0:w2.cell? ⟨w.heap.size,0,none⟩=some (.int .i64 p.year):=A2.out.pl.cell 0;have b1:w2.cell? ⟨w.heap.size,1,none⟩=some (.slice p.cr.a p.cr.n p.cr.c):=A2.out.pl.cell 1;have b2:w2.cell? ⟨w.heap.size,2,none⟩=some (.slice p.hi.a p.hi.n p.hi.c):=A2.out.pl.cell 2;have b3:w2.cell? ⟨w.heap.size,3,none⟩=some (.slice p.zo.a p.zo.n p.zo.c):=A2.out.pl.cell 3;have b4:w2.cell? ⟨w.heap.size,4,none⟩=some (.int .i64 p.day):=A2.out.pl.cell 4;have b6:w2.cell? ⟨w.heap.size,6,none⟩=some (.slice p.rc.a p.rc.n p.rc.c):=A2.out.pl.cell 6;have b7:w2.cell? ⟨w.heap.size,7,none⟩=some (.int .i64 p.crop):=A2.out.pl.cell 7;have bzz:=A2.out.pl.lt;clear hb2)
   | (go_at_call 91;refine (HC1.out _ (bc1 Bw.out b1)).mono ?_;rintro e w3 ⟨rfl,hb3⟩;have hq3:Below w2.heap.size w2 w3:=btr Bw.out hb3;have A3:=hid (A2.out.beh hq3);have k7:w3.cell? ⟨w2.heap.size,0,none⟩=some (.func (.func 91) #[] #[.pointer (some ⟨w.heap.size,0,none⟩)]):=bc1 hb3 (by simp [go_sem]);have c0:w3.cell? ⟨w.heap.size,0,none⟩=some (.int .i64 p.year):=A3.out.pl.cell 0;have c1:w3.cell? ⟨w.heap.size,1,none⟩=some (.slice p.cr.a p.cr.n p.cr.c):=A3.out.pl.cell 1;have c2:w3.cell? ⟨w.heap.size,2,none⟩=some (.slice p.hi.a p.hi.n p.hi.c):=A3.out.pl.cell 2;have c3:w3.cell? ⟨w.heap.size,3,none⟩=some (.slice p.zo.a p.zo.n p.zo.c):=A3.out.pl.cell 3;have c4:w3.cell? ⟨w.heap.size,4,none⟩=some (.int .i64 p.day):=A3.out.pl.cell 4;have c6:w3.cell? ⟨w.heap.size,6,none⟩=some (.slice p.rc.a p.rc.n p.rc.c):=A3.out.pl.cell 6;have c7:w3.cell? ⟨w.heap.size,7,none⟩=some (.int .i64 p.crop):=A3.out.pl.cell 7;have czz:=A3.out.pl.lt;clear hb3)
   | (go_at_call 92;refine (HCF.out _ _ A3.out.below k7 c1).mono ?_;rintro e w4 ⟨rfl,hb4⟩;have A4:=hid (A3.out.beh hb4);have d0:w4.cell? ⟨w.heap.size,0,none⟩=some (.int .i64 p.year):=A4.out.pl.cell 0;have d1:w4.cell? ⟨w.heap.size,1,none⟩=some (.slice p.cr.a p.cr.n p.cr.c):=A4.out.pl.cell 1;have d2:w4.cell? ⟨w.heap.size,2,none⟩=some (.slice p.hi.a p.hi.n p.hi.c):=A4.out.pl.cell 2;have d3:w4.cell? ⟨w.heap.size,3,none⟩=some (.slice p.zo.a p.zo.n p.zo.c):=A4.out.pl.cell 3;have d4:w4.cell? ⟨w.heap.size,4,none⟩=some (.int .i64 p.day):=A4.out.pl.cell 4;have d6:w4.cell? ⟨w.heap.size,6,none⟩=some (.slice p.rc.a p.rc.n p.rc.c):=A4.out.pl.cell 6;have d7:w4.cell? ⟨w.heap.size,7,none⟩=some (.int .i64 p.crop):=A4.out.pl.cell 7;have dzz:=A4.out.pl.lt;clear hb4)
   | (go_at_call 94;refine (HH.out _ A4.out.below).mono ?_;rintro e w5 ⟨rfl,hb5⟩;have A5:=hid (A4.out.beh hb5);have e0:w5.cell? ⟨w.heap.size,0,none⟩=some (.int .i64 p.year):=A5.out.pl.cell 0;have e1:w5.cell? ⟨w.heap.size,1,none⟩=some (.slice p.cr.a p.cr.n p.cr.c):=A5.out.pl.cell 1;have e2:w5.cell? ⟨w.heap.size,2,none⟩=some (.slice p.hi.a p.hi.n p.hi.c):=A5.out.pl.cell 2;have e3:w5.cell? ⟨w.heap.size,3,none⟩=some (.slice p.zo.a p.zo.n p.zo.c):=A5.out.pl.cell 3;have e4:w5.cell? ⟨w.heap.size,4,none⟩=some (.int .i64 p.day):=A5.out.pl.cell 4;have e6:w5.cell? ⟨w.heap.size,6,none⟩=some (.slice p.rc.a p.rc.n p.rc.c):=A5.out.pl.cell 6;have e7:w5.cell? ⟨w.heap.size,7,none⟩=some (.int .i64 p.crop):=A5.out.pl.cell 7;have ezz:=A5.out.pl.lt;clear hb5)
   | (go_at_call 95;refine (HO.out _ A5.out.below).mono ?_;rintro e w6 ⟨oa,on,oc,rfl,hb6⟩;have A6:=hid (A5.out.beh hb6);have f0:w6.cell? ⟨w.heap.size,0,none⟩=some (.int .i64 p.year):=A6.out.pl.cell 0;have f1:w6.cell? ⟨w.heap.size,1,none⟩=some (.slice p.cr.a p.cr.n p.cr.c):=A6.out.pl.cell 1;have f2:w6.cell? ⟨w.heap.size,2,none⟩=some (.slice p.hi.a p.hi.n p.hi.c):=A6.out.pl.cell 2;have f3:w6.cell? ⟨w.heap.size,3,none⟩=some (.slice p.zo.a p.zo.n p.zo.c):=A6.out.pl.cell 3;have f4:w6.cell? ⟨w.heap.size,4,none⟩=some (.int .i64 p.day):=A6.out.pl.cell 4;have f6:w6.cell? ⟨w.heap.size,6,none⟩=some (.slice p.rc.a p.rc.n p.rc.c):=A6.out.pl.cell 6;have f7:w6.cell? ⟨w.heap.size,7,none⟩=some (.int .i64 p.crop):=A6.out.pl.cell 7;have fzz:=A6.out.pl.lt;clear hb6)
   | (go_at_call 96;refine (HV8.out _ A6.out.below).mono ?_;rintro e w7 ⟨rfl,hb7⟩;have A7:=hid (A6.out.beh hb7);clear hb7))
  go_ret
  exact ⟨ret_int (by rw [← EV.out];unfold evF;rw [if_neg (by decide),if_neg (by decide),if_neg (by decide),if_neg (by decide),if_neg H56.out,if_neg (by decide),if_neg (by decide)]),A7.out.below⟩
end Go.Proofs.YtancajcelmhnkaaGreatDoor
