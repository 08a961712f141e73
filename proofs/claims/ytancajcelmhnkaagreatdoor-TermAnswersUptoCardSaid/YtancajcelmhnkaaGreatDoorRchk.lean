/- ref16.count,depth,single,form,Check. (Printed by gen4/rchk.py.) -/
import Derived.Test.YtancajcelmhnkaaGreatDoorEval
import Derived.Test.YtancajcelmhnkaaGreatDoorGv
set_option maxRecDepth 100000
set_option maxHeartbeats 8000000
namespace Go.Proofs.YtancajcelmhnkaaGreatDoor
open Go.RowKit Go.Sort Go.Shelf
set_option linter.unusedVariables false
set_option linter.unusedSimpArgs false
theorem Tm.depths_snoc (l:List Tm) (t:Tm):Tm.depths (l++[t])=max (Tm.depths l) t.depth:=by
 induction l with
 | nil=>simp [Tm.depths]
 | cons a l ih=>rw [List.cons_append,Tm.depths,ih,Tm.depths];omega
theorem Tm.depth_le (t:Tm):t.depth≤t.size:=by
 induction t using Tm.ind with
 | h op num more kids ih =>
  rw [Tm.depth,Tm.size]
  have:∀ l:List Tm,(∀ k ∈ l,k.depth≤k.size)→Tm.depths l≤Tm.sizes l:=by
   intro l
   induction l with
   | nil=>intro _;simp [Tm.depths]
   | cons a l ihl=>intro h;rw [Tm.depths,Tm.sizes];have:=h a List.mem_cons_self;have:=ihl fun x hx=>h x (List.mem_cons_of_mem _ hx);omega
  have:=this kids ih
  omega
theorem Tm.depths_sz (l:List Tm):Tm.depths l≤Tm.sizes l:=by
 induction l with
 | nil=>simp [Tm.depths]
 | cons a l ih=>rw [Tm.depths,Tm.sizes];have:=a.depth_le;omega
def RcP (w:World) (n:Nat) (e:Ending) (w':World):Prop:=∃ s:Nat,e=.returned (.int .i64 s)∧1≤s∧s≤n∧(s≤40→s=n)∧Below w.heap.size w w'
theorem rcount_any (t:TmM):∀ (w:World),TmOk w t→t.pl.size≤2147483647→Calls Tryz.prog 79 #[.agg (encTm t).toArray] w (RcP w t.pl.size):=by
 induction t using TmM.ind with
 | h op num more a n c kids ih =>
  intro w h hz
  rw [TmM.pl_mk,Tm.size] at hz ⊢
  show Calls Tryz.prog _ #[.agg #[.int .i64 op,.int .i64 num,.int .i64 more,.slice a n c]] w _
  have H:=hid h;have IH:=hid ih
  have HN:=hid h.len
  have hc:=h.few
  obtain ⟨W,hW⟩:∃ W,w.alloc (.cells #[.int .i64 op,.int .i64 num,.int .i64 more,.slice a n c] 24)=W:=⟨_,rfl⟩
  have B0:RowKit.Hid (Blk W w.heap.size 24 #[.int .i64 op,.int .i64 num,.int .i64 more,.slice a n c]):=by show Blk _ _ _ _;rw [← hW];exact Blk.new w _ _
  have BB:RowKit.Hid (Below w.heap.size w W):=by show Below _ _ _;rw [← hW];exact Bw.out
  have x3:W.cell? ⟨w.heap.size,3,none⟩=some (.slice a n c):=B0.out.cell 3
  have HZ:=hid hz
  clear h ih hz
  go_enter Tryz.func79,Tryz.ntmps79
  go_wp2
  go_loopw [3,9] (fun s i wr=>∃ (k m:Nat),k≤n∧i=.int .i64 k∧s=.int .i64 m∧1≤m∧m≤1+Tm.sizes ((kids.map TmM.pl).take k)∧(m≤40→m=1+Tm.sizes ((kids.map TmM.pl).take k))∧Below W.heap.size W wr) (fun _ i _=>n - (intOf i).toNat)
  case atStart=>exact ⟨0,1,Nat.zero_le _,rfl,rfl,Nat.le_refl _,by simp [Tm.sizes],fun _=>by simp [Tm.sizes],Below.refl _ _⟩
  case round =>
   obtain ⟨k,m,hk,rfl,rfl,m1,m2,m3,hb⟩:=hrel
   have HB:=hid hb;have M3:=hid m3
   have yb:=hb.size
   have HTL:=hid (Tm.sizes_take_le (kids.map TmM.pl) k)
   clear hb m3
   by_cases hlt:k<n
   ·have hke:k<kids.length:=by rw [HN.out];exact hlt
    obtain ⟨b,off,rfl,hbl,hrg⟩:=H.out.at_ hke
    have HRG:=hid (rangeAt_below hrg (btr BB.out HB.out))
    have hkm:k<(kids.map TmM.pl).length:=by rw [List.length_map];exact hke
    have HSZ:RowKit.Hid (Tm.sizes ((kids.map TmM.pl).take (k+1))=Tm.sizes ((kids.map TmM.pl).take k)+kids[k].pl.size):=by
     show _=_
     rw [List.take_succ_eq_append_getElem hkm,Tm.sizes_snoc,List.getElem_map]
    have HTL2:=hid (Tm.sizes_take_le (kids.map TmM.pl) (k+1))
    have HIH:=hid fun W' (hW':Below wr.heap.size wr W')=>IH.out _ (List.getElem_mem hke) W' ((H.out.kid (List.getElem_mem hke)).beh (btr (btr BB.out HB.out) hW')) (by have h1:=HTL2.out;have h2:=HSZ.out;have h3:=HZ.out;omega)
    clear hrg hkm
    obtain ⟨kt,hkt⟩:∃ kt,kids[k]=kt:=⟨_,rfl⟩
    rw [hkt] at HRG HSZ HIH
    clear hkt
    obtain ⟨sz,hsz⟩:∃ sz,Tm.sizes ((kids.map TmM.pl).take k)=sz:=⟨_,rfl⟩
    obtain ⟨sz2,hsz2⟩:∃ sz,Tm.sizes ((kids.map TmM.pl).take (k+1))=sz:=⟨_,rfl⟩
    have KS2:=hid hsz2
    rw [hsz] at HSZ HTL M3 m2
    rw [hsz2] at HSZ HTL2
    clear hsz hsz2
    obtain ⟨ks,hks⟩:∃ ks,kt.pl.size=ks:=⟨_,rfl⟩
    rw [hks] at HSZ HIH
    clear hks
    have b1:m≤2147483647:=by have h1:=HTL.out;have h3:=HZ.out;omega
    have b2:ks≤2147483647:=by have h1:=HTL2.out;have h2:=HSZ.out;have h3:=HZ.out;omega
    obtain ⟨op',num',more',a',n',c',kids'⟩:=kt
    dsimp only [encTm] at HRG HIH
    by_cases h40:m≤40
    ·go_wp2_with (first
      | (refine wpList_load_mid rfl 24 (.tmp 11) rfl b (off+k * 4) rfl [.int .i64 op',.int .i64 num',.int .i64 more',.slice a' n' c'] _ HRG.out Tryz.underlying24 rfl tmInfo ?_)
      | (refine st_new rfl 24 (.tmp 5) (.tmp 12) rfl #[.int .i64 op',.int .i64 num',.int .i64 more',.slice a' n' c'] _ _ rfl rfl tmInfo rfl (tm_one _ _ _ _ _ _) ?_)
      | (refine wpList_load_row rfl 24 (.tmp 5) rfl wr.heap.size rfl _ #[.int .i64 op',.int .i64 num',.int .i64 more',.slice a' n' c'] _ _ (Blk.new _ _ _) Tryz.underlying24 rfl tmInfo ?_)
      | (go_at_call 79;refine (HIH.out _ Bw.out).mono ?_;rintro e w2 ⟨s,rfl,s1,s2,s3,hb2⟩;have S3:=hid s3;clear s3;have Q2:RowKit.Hid (Below wr.heap.size wr w2):=btr Bw.out hb2;clear hb2))
     go_roundw
     case rel=>exact ⟨k+1,m+s,by omega,by go_num,by go_num,by omega,by rw [KS2.out,HSZ.out];omega,fun h=>by rw [KS2.out,HSZ.out];have h1:=M3.out h40;have h2:=S3.out (by omega);omega,btr HB.out Q2.out⟩
     case measure=>simp [intOf];omega
    ·go_wp2_with (first
      | (refine wpList_load_mid rfl 24 (.tmp 11) rfl b (off+k * 4) rfl [.int .i64 op',.int .i64 num',.int .i64 more',.slice a' n' c'] _ HRG.out Tryz.underlying24 rfl tmInfo ?_)
      | (refine st_new rfl 24 (.tmp 5) (.tmp 12) rfl #[.int .i64 op',.int .i64 num',.int .i64 more',.slice a' n' c'] _ _ rfl rfl tmInfo rfl (tm_one _ _ _ _ _ _) ?_)
      | (refine wpList_load_row rfl 24 (.tmp 5) rfl wr.heap.size rfl _ #[.int .i64 op',.int .i64 num',.int .i64 more',.slice a' n' c'] _ _ (Blk.new _ _ _) Tryz.underlying24 rfl tmInfo ?_))
     go_roundw
     case rel=>exact ⟨k+1,m,by omega,by go_num,rfl,m1,by rw [KS2.out,HSZ.out];omega,fun h=>absurd h h40,btr HB.out Bw.out⟩
     case measure=>simp [intOf];omega
   ·obtain rfl:k=n:=by omega
    have e:(kids.map TmM.pl).take k=kids.map TmM.pl:=List.take_of_length_le (by rw [List.length_map];have:=HN.out;omega)
    rw [e] at M3 m2
    clear e
    go_wp2
    go_ret
    exact ⟨m,rfl,m1,m2,M3.out,btr BB.out HB.out⟩
theorem rdepth_any (t:TmM):∀ (w:World),TmOk w t→t.pl.size≤2147483647→Calls Tryz.prog 80 #[.agg (encTm t).toArray] w fun e w'=>e=.returned (.int .i64 (t.pl.depth:Nat))∧Below w.heap.size w w':=by
 induction t using TmM.ind with
 | h op num more a n c kids ih =>
  intro w h hz
  rw [TmM.pl_mk,Tm.size] at hz
  rw [TmM.pl_mk,Tm.depth]
  show Calls Tryz.prog _ #[.agg #[.int .i64 op,.int .i64 num,.int .i64 more,.slice a n c]] w _
  have H:=hid h;have IH:=hid ih
  have HN:=hid h.len
  have hc:=h.few
  obtain ⟨W,hW⟩:∃ W,w.alloc (.cells #[.int .i64 op,.int .i64 num,.int .i64 more,.slice a n c] 24)=W:=⟨_,rfl⟩
  have B0:RowKit.Hid (Blk W w.heap.size 24 #[.int .i64 op,.int .i64 num,.int .i64 more,.slice a n c]):=by show Blk _ _ _ _;rw [← hW];exact Blk.new w _ _
  have BB:RowKit.Hid (Below w.heap.size w W):=by show Below _ _ _;rw [← hW];exact Bw.out
  have x3:W.cell? ⟨w.heap.size,3,none⟩=some (.slice a n c):=B0.out.cell 3
  have HZ:=hid hz
  clear h ih hz
  go_enter Tryz.func80,Tryz.ntmps80
  go_wp2
  go_loopw [3,9] (fun s i wr=>∃ k:Nat,k≤n∧i=.int .i64 k∧s=.int .i64 (Tm.depths ((kids.map TmM.pl).take k):Nat)∧Below W.heap.size W wr) (fun _ i _=>n - (intOf i).toNat)
  case atStart=>exact ⟨0,Nat.zero_le _,rfl,by simp [Tm.depths],Below.refl _ _⟩
  case round =>
   obtain ⟨k,hk,rfl,rfl,hb⟩:=hrel
   have HB:=hid hb
   have yb:=hb.size
   have HDL:=hid (Nat.le_trans (Tm.depths_sz ((kids.map TmM.pl).take k)) (Tm.sizes_take_le (kids.map TmM.pl) k))
   clear hb
   by_cases hlt:k<n
   ·have hke:k<kids.length:=by rw [HN.out];exact hlt
    obtain ⟨b,off,rfl,hbl,hrg⟩:=H.out.at_ hke
    have HRG:=hid (rangeAt_below hrg (btr BB.out HB.out))
    have hkm:k<(kids.map TmM.pl).length:=by rw [List.length_map];exact hke
    have HSZ:RowKit.Hid (Tm.depths ((kids.map TmM.pl).take (k+1))=max (Tm.depths ((kids.map TmM.pl).take k)) kids[k].pl.depth):=by
     show _=_
     rw [List.take_succ_eq_append_getElem hkm,Tm.depths_snoc,List.getElem_map]
    have HK:=hid (Tm.sizes_mem (l:=kids.map TmM.pl) (t:=kids[k].pl) (List.mem_map.2 ⟨_,List.getElem_mem hke,rfl⟩))
    have HKD:=hid (kids[k].pl.depth_le)
    have HIH:=hid fun W' (hW':Below wr.heap.size wr W')=>IH.out _ (List.getElem_mem hke) W' ((H.out.kid (List.getElem_mem hke)).beh (btr (btr BB.out HB.out) hW')) (by have h1:=HK.out;have h3:=HZ.out;omega)
    clear hrg hkm
    obtain ⟨kt,hkt⟩:∃ kt,kids[k]=kt:=⟨_,rfl⟩
    rw [hkt] at HRG HSZ HIH HK HKD
    clear hkt
    obtain ⟨sz,hsz⟩:∃ sz,Tm.depths ((kids.map TmM.pl).take k)=sz:=⟨_,rfl⟩
    have HSZ2:=hid hsz
    rw [hsz] at HDL ⊢
    clear hsz
    obtain ⟨ks,hks⟩:∃ ks,kt.pl.depth=ks:=⟨_,rfl⟩
    rw [hks] at HSZ HIH HKD
    clear hks
    have b1:sz≤2147483647:=by have h1:=HDL.out;have h3:=HZ.out;omega
    have b2:ks≤2147483647:=by have h1:=HKD.out;have h2:=HK.out;have h3:=HZ.out;omega
    obtain ⟨op',num',more',a',n',c',kids'⟩:=kt
    dsimp only [encTm] at HRG HIH
    go_wp2_with (first
      | (refine wpList_load_mid rfl 24 (.tmp 11) rfl b (off+k * 4) rfl [.int .i64 op',.int .i64 num',.int .i64 more',.slice a' n' c'] _ HRG.out Tryz.underlying24 rfl tmInfo ?_)
      | (refine st_new rfl 24 (.tmp 5) (.tmp 12) rfl #[.int .i64 op',.int .i64 num',.int .i64 more',.slice a' n' c'] _ _ rfl rfl tmInfo rfl (tm_one _ _ _ _ _ _) ?_)
      | (refine wpList_load_row rfl 24 (.tmp 5) rfl wr.heap.size rfl _ #[.int .i64 op',.int .i64 num',.int .i64 more',.slice a' n' c'] _ _ (Blk.new _ _ _) Tryz.underlying24 rfl tmInfo ?_)
      | (go_at_call 80;refine (HIH.out _ Bw.out).mono ?_;rintro e w2 ⟨rfl,hb2⟩;have Q2:RowKit.Hid (Below wr.heap.size wr w2):=btr Bw.out hb2;clear hb2))
    all_goals go_roundw
    all_goals first
     | (case rel =>
       refine ⟨k+1,by omega,by go_num,?_,btr HB.out Q2.out⟩
       have h1:=HSZ.out;have h2:=HSZ2.out
       congr 1
       omega)
     | (case measure=>simp [intOf];omega)
   ·obtain rfl:k=n:=by omega
    have e:(kids.map TmM.pl).take k=kids.map TmM.pl:=List.take_of_length_le (by rw [List.length_map];have:=HN.out;omega)
    rw [e] at HDL ⊢
    clear e
    obtain ⟨sz,hsz⟩:∃ sz,Tm.depths (kids.map TmM.pl)=sz:=⟨_,rfl⟩
    rw [hsz] at HDL ⊢
    have b1:sz≤2147483647:=by have h1:=HDL.out;have h3:=HZ.out;omega
    go_wp2
    go_ret
    exact ⟨ret_int (by omega),btr BB.out HB.out⟩
theorem rsingle_any (m:Int) (w:World):Calls Tryz.prog 123 #[.int .i64 m] w fun e w'=>e=.returned (.bool (oneMark m))∧w'=w:=by
 obtain ⟨b,hb⟩:∃ b,oneMark m=b:=⟨_,rfl⟩
 have HB:=hid hb
 rw [hb]
 clear hb
 by_cases h1:m=1
 ·subst h1
  go_enter Tryz.func123,Tryz.ntmps123
  go_wp2
  go_ret
  exact ⟨by rw [← HB.out];rfl,rfl⟩
 by_cases h2:m=2
 ·subst h2
  go_enter Tryz.func123,Tryz.ntmps123
  go_wp2
  go_ret
  exact ⟨by rw [← HB.out];rfl,rfl⟩
 by_cases h4:m=4
 ·subst h4
  go_enter Tryz.func123,Tryz.ntmps123
  go_wp2
  go_ret
  exact ⟨by rw [← HB.out];rfl,rfl⟩
 by_cases h8:m=8
 ·subst h8
  go_enter Tryz.func123,Tryz.ntmps123
  go_wp2
  go_ret
  exact ⟨by rw [← HB.out];rfl,rfl⟩
 by_cases h16:m=16
 ·subst h16
  go_enter Tryz.func123,Tryz.ntmps123
  go_wp2
  go_ret
  exact ⟨by rw [← HB.out];rfl,rfl⟩
 ·have e1:((m:Int) == 1)=false:=by simpa using h1
  have e2:((m:Int) == 2)=false:=by simpa using h2
  have e4:((m:Int) == 4)=false:=by simpa using h4
  have e8:((m:Int) == 8)=false:=by simpa using h8
  have e16:((m:Int) == 16)=false:=by simpa using h16
  have HF:RowKit.Hid (b=false):=by show b=false;rw [← HB.out];unfold oneMark;simp [h1,h2,h4,h8,h16]
  clear h1 h2 h4 h8 h16
  go_enter Tryz.func123,Tryz.ntmps123
  go_wp2
  go_ret
  exact ⟨by rw [HF.out];rfl,rfl⟩
def FormC (op num more:Int) (n:Nat) (W:World) (s3 s4 s5:Value) (wx:World):Prop:=∃ (kk:Int) (m ok:Bool),s3=.int .i64 kk∧s4=.bool m∧s5=.bool ok∧(ok && m && decide ((n:Int)=kk))=formB op num more n∧Below W.heap.size W wx
theorem rform_any (t:TmM):∀ (w:World),TmOk w t→Calls Tryz.prog 81 #[.agg (encTm t).toArray] w fun e w'=>e=.returned (.bool t.pl.form)∧Below w.heap.size w w':=by
 induction t using TmM.ind with
 | h op num more a n c kids ih =>
  intro w h
  rw [TmM.pl_mk,Tm.form_mk,List.length_map,h.len]
  show Calls Tryz.prog _ #[.agg #[.int .i64 op,.int .i64 num,.int .i64 more,.slice a n c]] w _
  have H:=hid h;have IH:=hid ih
  have HN:=hid h.len
  have hc:=h.few
  obtain ⟨W,hW⟩:∃ W,w.alloc (.cells #[.int .i64 op,.int .i64 num,.int .i64 more,.slice a n c] 24)=W:=⟨_,rfl⟩
  have B0:RowKit.Hid (Blk W w.heap.size 24 #[.int .i64 op,.int .i64 num,.int .i64 more,.slice a n c]):=by show Blk _ _ _ _;rw [← hW];exact Blk.new w _ _
  have BB:RowKit.Hid (Below w.heap.size w W):=by show Below _ _ _;rw [← hW];exact Bw.out
  have x0:W.cell? ⟨w.heap.size,0,none⟩=some (.int .i64 op):=B0.out.cell 0
  have x1:W.cell? ⟨w.heap.size,1,none⟩=some (.int .i64 num):=B0.out.cell 1
  have x2:W.cell? ⟨w.heap.size,2,none⟩=some (.int .i64 more):=B0.out.cell 2
  have x3:W.cell? ⟨w.heap.size,3,none⟩=some (.slice a n c):=B0.out.cell 3
  have HS:=hid (rsingle_any num);have HM:=hid (rsingle_any more)
  clear h ih
  go_enter Tryz.func81,Tryz.ntmps81
  go_upto_block 0 with (go_quiet (fail))
  obtain ⟨V,hV⟩:∃ V,W.drewN nq=V:=⟨_,rfl⟩
  have BV:RowKit.Hid (Below W.heap.size W V):=by show Below _ _ _;rw [← hV];exact bdn (Below.refl _ _) _
  have v0:=bc1 BV.out x0;have v1:=bc1 BV.out x1;have v2:=bc1 BV.out x2;have v3:=bc1 BV.out x3
  rw [hV]
  clear hV x0 x1 x2
  go_cut [3,4,5] (fun s3 s4 s5 wx=>FormC op num more n W s3 s4 s5 wx)
  case first =>
   by_cases h1:op=1
   ·subst h1
    go_wp2
    go_meet
    case rel=>exact ⟨_,_,_,rfl,rfl,rfl,(by unfold formB;rw [Bool.eq_iff_iff];simp <;> omega),BV.out⟩
   by_cases h2:op=2
   ·subst h2
    by_cases q:0≤num
    ·go_wp2
     go_meet
     case rel=>exact ⟨_,_,_,rfl,rfl,rfl,(by unfold formB;rw [Bool.eq_iff_iff];simp <;> omega),BV.out⟩
    ·go_wp2
     go_meet
     case rel=>exact ⟨_,_,_,rfl,rfl,rfl,(by unfold formB;rw [Bool.eq_iff_iff];simp <;> omega),BV.out⟩
   by_cases h3:op=3
   ·subst h3
    by_cases q:0≤num
    ·go_wp2
     go_meet
     case rel=>exact ⟨_,_,_,rfl,rfl,rfl,(by unfold formB;rw [Bool.eq_iff_iff];simp <;> omega),BV.out⟩
    ·go_wp2
     go_meet
     case rel=>exact ⟨_,_,_,rfl,rfl,rfl,(by unfold formB;rw [Bool.eq_iff_iff];simp <;> omega),BV.out⟩
   by_cases h4:op=4
   ·subst h4
    go_wp2_with (go_at_call 123;refine (HS.out _).mono ?_;rintro e wz ⟨rfl,rfl⟩)
    go_meet
    case rel=>exact ⟨_,_,_,rfl,rfl,rfl,(by unfold formB;rw [Bool.eq_iff_iff];simp <;> omega),BV.out⟩
   by_cases h5:op=5
   ·subst h5
    by_cases q:0≤num
    ·go_wp2
     go_meet
     case rel=>exact ⟨_,_,_,rfl,rfl,rfl,(by unfold formB;rw [Bool.eq_iff_iff];simp <;> omega),BV.out⟩
    ·go_wp2
     go_meet
     case rel=>exact ⟨_,_,_,rfl,rfl,rfl,(by unfold formB;rw [Bool.eq_iff_iff];simp <;> omega),BV.out⟩
   by_cases h6:op=6
   ·subst h6
    by_cases q:2≤num
    ·go_wp2
     go_meet
     case rel=>exact ⟨_,_,_,rfl,rfl,rfl,(by unfold formB;rw [Bool.eq_iff_iff];simp <;> omega),BV.out⟩
    ·go_wp2
     go_meet
     case rel=>exact ⟨_,_,_,rfl,rfl,rfl,(by unfold formB;rw [Bool.eq_iff_iff];simp <;> omega),BV.out⟩
   by_cases h7:op=7
   ·subst h7
    by_cases q:1≤num
    ·go_wp2
     go_quiet (exact Calls.quiet_of_same (HM.out _))
     go_wp2
     go_meet
     case rel=>exact ⟨_,_,_,rfl,rfl,rfl,(by unfold formB;rw [Bool.eq_iff_iff];simp <;> omega),bdn BV.out _⟩
    ·have hqd:decide (1≤num)=false:=decide_eq_false q
     clear q
     go_wp2
     go_big_quiet (exact Calls.quiet_of_same (HM.out _))
     all_goals go_wp2
     all_goals go_meet
     all_goals (case rel=>exact ⟨_,_,_,rfl,rfl,rfl,(by have hq:=of_decide_eq_false hqd;unfold formB;rw [Bool.eq_iff_iff];simp <;> omega),btr BV.out Bw.out⟩)
   by_cases h8:op=8
   ·subst h8
    by_cases q:1≤num
    ·go_wp2
     go_meet
     case rel=>exact ⟨_,_,_,rfl,rfl,rfl,(by unfold formB;rw [Bool.eq_iff_iff];simp <;> omega),BV.out⟩
    ·go_wp2
     go_meet
     case rel=>exact ⟨_,_,_,rfl,rfl,rfl,(by unfold formB;rw [Bool.eq_iff_iff];simp <;> omega),BV.out⟩
   by_cases h9:op=9
   ·subst h9
    by_cases q:num=0
    ·subst q
     go_wp2
     go_quiet (fail)
     go_wp2
     go_meet
     case rel=>exact ⟨_,_,_,rfl,rfl,rfl,(by unfold formB;rw [Bool.eq_iff_iff];simp <;> omega),bdn BV.out _⟩
    ·have q':((num:Int) == 0)=false:=by simpa using q
     go_wp2
     go_quiet (fail)
     go_wp2
     go_meet
     case rel=>exact ⟨_,_,_,rfl,rfl,rfl,(by unfold formB;rw [Bool.eq_iff_iff];simp <;> omega),bdn BV.out _⟩
   by_cases h10:op=10
   ·subst h10
    by_cases q:num=0
    ·subst q
     go_wp2
     go_quiet (fail)
     go_wp2
     go_meet
     case rel=>exact ⟨_,_,_,rfl,rfl,rfl,(by unfold formB;rw [Bool.eq_iff_iff];simp <;> omega),bdn BV.out _⟩
    ·have q':((num:Int) == 0)=false:=by simpa using q
     go_wp2
     go_quiet (fail)
     go_wp2
     go_meet
     case rel=>exact ⟨_,_,_,rfl,rfl,rfl,(by unfold formB;rw [Bool.eq_iff_iff];simp <;> omega),bdn BV.out _⟩
   by_cases h11:op=11
   ·subst h11
    go_wp2
    go_meet
    case rel=>exact ⟨_,_,_,rfl,rfl,rfl,(by unfold formB;rw [Bool.eq_iff_iff];simp <;> omega),BV.out⟩
   have e1:((op:Int) == 1)=false:=by simpa using h1
   have e2:((op:Int) == 2)=false:=by simpa using h2
   have e3:((op:Int) == 3)=false:=by simpa using h3
   have e4:((op:Int) == 4)=false:=by simpa using h4
   have e5:((op:Int) == 5)=false:=by simpa using h5
   have e6:((op:Int) == 6)=false:=by simpa using h6
   have e7:((op:Int) == 7)=false:=by simpa using h7
   have e8:((op:Int) == 8)=false:=by simpa using h8
   have e9:((op:Int) == 9)=false:=by simpa using h9
   have e10:((op:Int) == 10)=false:=by simpa using h10
   have e11:((op:Int) == 11)=false:=by simpa using h11
   have HNO:RowKit.Hid (formB op num more n=false):=by show _=_;unfold formB;simp [h1,h2,h3,h4,h5,h6,h7,h8,h9,h10,h11]
   clear h1 h2 h3 h4 h5 h6 h7 h8 h9 h10 h11
   go_wp2
   go_meet
   case rel=>exact ⟨_,_,_,rfl,rfl,rfl,(by rw [HNO.out];simp),BV.out⟩
  case rest =>
  obtain ⟨kk,m,ok,rfl,rfl,rfl,hfb,hbc⟩:=hcut
  have HB0:=hid (btr BB.out hbc)
  have c3:=bc1 hbc x3
  have HFB:=hid hfb
  clear hfb hbc v0 v1 v2 v3 BV x3 HS HM
  cases ok with
  | false =>
   go_wp2
   go_ret
   exact ⟨by rw [← HFB.out];rfl,HB0.out⟩
  | true =>
  cases m with
  | false =>
   go_wp2
   go_ret
   exact ⟨by rw [← HFB.out];rfl,HB0.out⟩
  | true =>
  by_cases hkk:(n:Int)=kk
  ·have HFT:RowKit.Hid (formB op num more n=true):=by show _=_;rw [← HFB.out,decide_eq_true hkk];rfl
   subst hkk
   go_wp2
   go_loopw [122] (fun i wr=>∃ k:Nat,k≤n∧i=.int .i64 k∧(∀ j (hj:j<kids.length),j<k→kids[j].pl.form=true)∧Below wc.heap.size wc wr) (fun i _=>n - (intOf i).toNat)
   case atStart=>exact ⟨0,Nat.zero_le _,rfl,(fun j _ h=>absurd h (Nat.not_lt_zero j)),Below.refl _ _⟩
   case round =>
    obtain ⟨k,hk,rfl,hall,hb⟩:=hrel
    have HB:=hid hb;have HALL:=hid hall
    have yb:=hb.size
    clear hb hall
    by_cases hlt:k<n
    ·have hke:k<kids.length:=by rw [HN.out];exact hlt
     obtain ⟨b,off,rfl,hbl,hrg⟩:=H.out.at_ hke
     have HRG:=hid (rangeAt_below hrg (btr HB0.out HB.out))
     have HIH:=hid fun W' (hW':Below wr.heap.size wr W')=>IH.out _ (List.getElem_mem hke) W' ((H.out.kid (List.getElem_mem hke)).beh (btr (btr HB0.out HB.out) hW'))
     have HNX:RowKit.Hid (kids[k].pl.form=true→∀ j (hj:j<kids.length),j<k+1→kids[j].pl.form=true):=fun q j hj hjk=>by
      by_cases e:j=k
      ·subst e;exact q
      ·exact HALL.out j hj (by omega)
     have HAF:RowKit.Hid (kids[k].pl.form=false→(kids.map TmM.pl).all Tm.form=false):=fun q=>by
      rw [List.all_eq_false]
      exact ⟨_,List.mem_map.2 ⟨_,List.getElem_mem hke,rfl⟩,by rw [q];decide⟩
     clear hrg
     obtain ⟨kt,hkt⟩:∃ kt,kids[k]=kt:=⟨_,rfl⟩
     rw [hkt] at HRG HIH HNX HAF
     clear hkt
     obtain ⟨kf,hkf⟩:∃ kf,kt.pl.form=kf:=⟨_,rfl⟩
     rw [hkf] at HIH HNX HAF
     clear hkf
     obtain ⟨op',num',more',a',n',c',kids'⟩:=kt
     dsimp only [encTm] at HRG HIH
     cases kf with
     | true =>
      go_wp2_with (first
       | (refine wpList_load_mid rfl 24 (.tmp 124) rfl b (off+k * 4) rfl [.int .i64 op',.int .i64 num',.int .i64 more',.slice a' n' c'] _ HRG.out Tryz.underlying24 rfl tmInfo ?_)
       | (refine st_new rfl 24 (.tmp 7) (.tmp 125) rfl #[.int .i64 op',.int .i64 num',.int .i64 more',.slice a' n' c'] _ _ rfl rfl tmInfo rfl (tm_one _ _ _ _ _ _) ?_)
       | (refine wpList_load_row rfl 24 (.tmp 7) rfl wr.heap.size rfl _ #[.int .i64 op',.int .i64 num',.int .i64 more',.slice a' n' c'] _ _ (Blk.new _ _ _) Tryz.underlying24 rfl tmInfo ?_)
       | (go_at_call 81;refine (HIH.out _ Bw.out).mono ?_;rintro e w2 ⟨rfl,hb2⟩;have Q2:RowKit.Hid (Below wr.heap.size wr w2):=btr Bw.out hb2;clear hb2))
      go_roundw
      case rel=>exact ⟨k+1,by omega,by go_num,HNX.out (by first | rfl | trivial),btr HB.out Q2.out⟩
      case measure=>simp [intOf];omega
     | false =>
      go_wp2_with (first
       | (refine wpList_load_mid rfl 24 (.tmp 124) rfl b (off+k * 4) rfl [.int .i64 op',.int .i64 num',.int .i64 more',.slice a' n' c'] _ HRG.out Tryz.underlying24 rfl tmInfo ?_)
       | (refine st_new rfl 24 (.tmp 7) (.tmp 125) rfl #[.int .i64 op',.int .i64 num',.int .i64 more',.slice a' n' c'] _ _ rfl rfl tmInfo rfl (tm_one _ _ _ _ _ _) ?_)
       | (refine wpList_load_row rfl 24 (.tmp 7) rfl wr.heap.size rfl _ #[.int .i64 op',.int .i64 num',.int .i64 more',.slice a' n' c'] _ _ (Blk.new _ _ _) Tryz.underlying24 rfl tmInfo ?_)
       | (go_at_call 81;refine (HIH.out _ Bw.out).mono ?_;rintro e w2 ⟨rfl,hb2⟩;have Q2:RowKit.Hid (Below wr.heap.size wr w2):=btr Bw.out hb2;clear hb2))
      go_ret
      exact ⟨by rw [HFT.out,HAF.out (by first | rfl | trivial)];rfl,btr (btr HB0.out HB.out) Q2.out⟩
    ·obtain rfl:k=n:=by omega
     have HT:RowKit.Hid ((kids.map TmM.pl).all Tm.form=true):=by
      show _=_
      rw [List.all_eq_true]
      intro t ht
      obtain ⟨u,hu,rfl⟩:=List.mem_map.1 ht
      obtain ⟨j,hj,rfl⟩:=List.getElem_of_mem hu
      exact HALL.out j hj (by rw [HN.out] at hj;exact hj)
     go_wp2
     go_ret
     exact ⟨by rw [HFT.out,HT.out];rfl,btr HB0.out HB.out⟩
  ·have hk2:((n:Int) == kk)=false:=by simpa using hkk
   have HFF:RowKit.Hid (formB op num more n=false):=by show _=_;rw [← HFB.out,decide_eq_false hkk];rfl
   clear hkk
   go_wp2
   go_ret
   exact ⟨by rw [HFF.out];rfl,HB0.out⟩
theorem rcheck_any (t:TmM) (w:World) (h:TmOk w t) (hz:t.pl.size≤2147483647):Calls Tryz.prog 41 #[.agg (encTm t).toArray] w fun e w'=>e=.returned (.int .i64 (chkT t.pl))∧Below w.heap.size w w':=by
 have HC:=hid fun W' (hW':Below w.heap.size w W')=>rcount_any t W' (h.beh hW') hz
 have HD:=hid fun W' (hW':Below w.heap.size w W')=>rdepth_any t W' (h.beh hW') hz
 have HF:=hid fun W' (hW':Below w.heap.size w W')=>rform_any t W' (h.beh hW')
 have HDL:=t.pl.depth_le
 unfold chkT rightB
 obtain ⟨z,hz'⟩:∃ z,t.pl.size=z:=⟨_,rfl⟩
 obtain ⟨d,hd⟩:∃ d,t.pl.depth=d:=⟨_,rfl⟩
 obtain ⟨b,hb⟩:∃ b,t.pl.form=b:=⟨_,rfl⟩
 obtain ⟨tb,htb⟩:∃ tb,(encTm t).toArray=tb:=⟨_,rfl⟩
 have TI:RowKit.Hid ((Tryz.prog.info? 24).map (·.size)=some tb.size):=by show _=_;rw [← htb];cases t;exact tmInfo
 rw [hz'] at HC hz HDL ⊢
 rw [hd] at HD HDL ⊢
 rw [hb] at HF ⊢
 rw [htb] at HC HD HF ⊢
 clear h hz' hd hb htb
 obtain ⟨W,hW⟩:∃ W,w.alloc (.cells tb 24)=W:=⟨_,rfl⟩
 have B0:RowKit.Hid (Blk W w.heap.size 24 tb):=by show Blk _ _ _ _;rw [← hW];exact Blk.new w _ _
 have BB:RowKit.Hid (Below w.heap.size w W):=by show Below _ _ _;rw [← hW];exact Bw.out
 by_cases h40:40<z
 ·rw [if_pos h40]
  go_enter Tryz.func41,Tryz.ntmps41
  go_wp2_with (first
   | (refine wpList_load_row rfl 24 (.tmp 1) rfl w.heap.size rfl _ tb _ _ B0.out Tryz.underlying24 rfl TI.out ?_)
   | (go_at_call 79;refine (HC.out _ BB.out).mono ?_;rintro e w1 ⟨s,rfl,s1,s2,s3,hb1⟩;have g40:(40:Int)<(s:Int):=(by rcases Nat.lt_or_ge 40 s with q | q;omega;have:=s3 q;omega);have BB1:=hid (btr BB.out hb1);clear s3 hb1))
  go_ret
  exact ⟨rfl,BB1.out⟩
 ·rw [if_neg h40]
  by_cases h8:8<d
  ·have h8':(8:Int)<(d:Int):=by omega
   have e8:(b && decide (d≤8))=false:=by rw [decide_eq_false (by omega)];simp
   rw [e8]
   go_enter Tryz.func41,Tryz.ntmps41
   go_wp2_with (first
    | (refine ld_row_w rfl 24 (.tmp 1) rfl w.heap.size rfl _ tb _ _ B0.out Tryz.underlying24 rfl TI.out ?_)
    | (go_at_call 79;refine (HC.out _ BB.out).mono ?_;rintro e w1 ⟨s,rfl,s1,s2,s3,hb1⟩;have B1:=hid (B0.out.below hb1);have g40:¬ (40:Int)<(s:Int):=(by omega);have BB1:=hid (btr BB.out hb1);clear s3 hb1)
    | (refine ld_row_w rfl 24 (.tmp 1) rfl w.heap.size rfl _ tb _ _ B1.out Tryz.underlying24 rfl TI.out ?_)
    | (go_at_call 80;refine (HD.out _ BB1.out).mono ?_;rintro e w2 ⟨rfl,hb2⟩;have BB2:=hid (btr BB1.out hb2);clear hb2))
   go_ret
   exact ⟨rfl,BB2.out⟩
  ·have h8':¬ (8:Int)<(d:Int):=by omega
   have HD8:RowKit.Hid (decide ((8:Int)<(d:Int))=false):=decide_eq_false h8'
   have e8:(b && decide (d≤8))=b:=by rw [decide_eq_true (by omega)];simp
   rw [e8]
   cases b with
   | true =>
    go_enter Tryz.func41,Tryz.ntmps41
    go_wp2_with (first
    | (rw [HD8.out])
    | (refine ld_row_w rfl 24 (.tmp 1) rfl w.heap.size rfl _ tb _ _ B0.out Tryz.underlying24 rfl TI.out ?_)
    | (go_at_call 79;refine (HC.out _ BB.out).mono ?_;rintro e w1 ⟨s,rfl,s1,s2,s3,hb1⟩;have B1:=hid (B0.out.below hb1);have g40:¬ (40:Int)<(s:Int):=(by omega);have BB1:=hid (btr BB.out hb1);clear s3 hb1)
    | (refine ld_row_w rfl 24 (.tmp 1) rfl w.heap.size rfl _ tb _ _ B1.out Tryz.underlying24 rfl TI.out ?_)
    | (go_at_call 80;refine (HD.out _ BB1.out).mono ?_;rintro e w2 ⟨rfl,hb2⟩;have B2:=hid (B1.out.below hb2);have BB2:=hid (btr BB1.out hb2);clear hb2)
    | (refine ld_row_w rfl 24 (.tmp 1) rfl w.heap.size rfl _ tb _ _ B2.out Tryz.underlying24 rfl TI.out ?_)
    | (go_at_call 81;refine (HF.out _ BB2.out).mono ?_;rintro e w3 ⟨rfl,hb3⟩;have BB3:=hid (btr BB2.out hb3);clear hb3))
    go_ret
    exact ⟨rfl,BB3.out⟩
   | false =>
    go_enter Tryz.func41,Tryz.ntmps41
    go_wp2_with (first
    | (rw [HD8.out])
    | (refine ld_row_w rfl 24 (.tmp 1) rfl w.heap.size rfl _ tb _ _ B0.out Tryz.underlying24 rfl TI.out ?_)
    | (go_at_call 79;refine (HC.out _ BB.out).mono ?_;rintro e w1 ⟨s,rfl,s1,s2,s3,hb1⟩;have B1:=hid (B0.out.below hb1);have g40:¬ (40:Int)<(s:Int):=(by omega);have BB1:=hid (btr BB.out hb1);clear s3 hb1)
    | (refine ld_row_w rfl 24 (.tmp 1) rfl w.heap.size rfl _ tb _ _ B1.out Tryz.underlying24 rfl TI.out ?_)
    | (go_at_call 80;refine (HD.out _ BB1.out).mono ?_;rintro e w2 ⟨rfl,hb2⟩;have B2:=hid (B1.out.below hb2);have BB2:=hid (btr BB1.out hb2);clear hb2)
    | (refine ld_row_w rfl 24 (.tmp 1) rfl w.heap.size rfl _ tb _ _ B2.out Tryz.underlying24 rfl TI.out ?_)
    | (go_at_call 81;refine (HF.out _ BB2.out).mono ?_;rintro e w3 ⟨rfl,hb3⟩;have BB3:=hid (btr BB2.out hb3);clear hb3))
    go_ret
    exact ⟨rfl,BB3.out⟩
end Go.Proofs.YtancajcelmhnkaaGreatDoor
