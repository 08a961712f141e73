/- The reference's histories: which are right (but for their order);what is known in a year. -/
import Derived.Test.YtancajcelmhnkaaGreatDoorGn
set_option maxRecDepth 100000
set_option maxHeartbeats 8000000
namespace Go.Proofs.YtancajcelmhnkaaGreatDoor
open Go.RowKit Go.Sort Go.Shelf
set_option linter.unusedVariables false
set_option linter.unusedSimpArgs false
theorem rdInfo:(Tryz.prog.info? 47).map (·.size)=some 3:=by kernel_rfl
theorem infoRd:(Tryz.prog.info? 47).map (fun i=>(i.zero,i.size,i.bytes))=some (some (.agg #[.int .i64 0,.int .i64 0,.slice none 0 0]),3,40):=by kernel_rfl
theorem elRd:ElT Tryz.prog 32 47 3 40:=.mk' Tryz.underlying32 infoRd rfl (by decide) (by decide)
theorem rd_one (a b:Int) (s:Option Addr) (n k:Nat):(#[.int .i64 a,.int .i64 b,.slice s n k]:Array Value).all (·.oneCell')=true:=by
 rw [List.all_toArray];rfl
theorem oneC_rd (r:RcdM):OneC (encRcd r):=fun u hu=>by simp [encRcd] at hu;rcases hu with rfl | rfl | rfl <;> rfl
structure HGood (l:List Rcd):Prop where
 len:l.length≤200
 ok:∀ r ∈ l,r.Ok
 lap:∀ i j (hj:j<l.length) (hi:i<j),l[i].year=l[j].year→¬ Meet l[i].rects l[j].rects
def HSort (l:List Rcd):Prop:=∀ j (hj:j<l.length) (h:0<j),l[j - 1].lt l[j]
def HChk (l:List Rcd) (x:Int):Prop:=(HSort l→x=0)∧(¬ HSort l→x=3)
theorem HistOk.good {l:List Rcd} (h:HistOk l):HGood l:=⟨h.len,fun r hr=>h.mem hr,fun i j hj hi e m=>h.lap ⟨i,j,hj,hi,e,m⟩⟩
theorem HistOk.sort {l:List Rcd} (h:HistOk l):HSort l:=fun j hj h0=>(h.pre j hj hj).2 h0
theorem hsort_bad {l:List Rcd} {m:Nat} (hm:m+1<l.length) (h:¬ l[m].lt l[m+1]):HChk l 3:=⟨fun hs=>absurd (hs (m+1) hm (by omega)) h,fun _=>rfl⟩
theorem rhcheck_any (s:Sc RcdM) (w:World) (hR:Rws encRcd w s 200) (hcap:s.n≤s.c∧s.c≤maxLen) (hr:∀ r ∈ s.l,ScOk2 w r.s) (hg:HGood (s.l.map RcdM.pl)) :
  Calls Tryz.prog 57 #[.slice s.a s.n s.c] w fun e w'=>∃ x,e=.returned (.int .i64 x)∧HChk (s.l.map RcdM.pl) x∧Below w.heap.size w w':=by
 obtain ⟨a,n,c,l⟩:=s
 dsimp only at hr hg hcap ⊢
 have HR:=hid hR;have HS:=hid hr;have HG:=hid hg
 have hn:l.length=n:=hR.len
 have HN:=hid hn
 have hm:n≤200:=hR.few
 have h60:¬ (200:Int)<(n:Int):=by omega
 obtain ⟨hc1,hc2⟩:=hcap
 unfold maxLen at hc2
 clear hR hr hg hn
 go_enter Tryz.func57,Tryz.ntmps57
 go_wp2
 go_loopw [14] (fun i wr=>∃ k:Nat,k≤n∧i=.int .i64 k∧(∀ j (hj:j<l.length) (h:0<j),j<k→(l[j - 1]'(by omega)).pl.lt l[j].pl)∧Below w.heap.size w wr) (fun i _=>n - (intOf i).toNat)
 case atStart=>exact ⟨0,Nat.zero_le _,rfl,(fun j _ _ h=>absurd h (Nat.not_lt_zero j)),Below.refl _ _⟩
 case round =>
  obtain ⟨k,hk,rfl,hno,hb⟩:=hrel
  have NO:=hid hno;have HB:=hid hb
  clear hno hb
  by_cases hlt:k<n
  ·have hke:k<l.length:=by rw [HN.out];exact hlt
   obtain ⟨b,off,rfl,hbl,hrg⟩:=HR.out.vw.range (k:=3) (fun x _=>encRcd_len x) (by omega) k hke
   have HRG:=hid (rangeAt_below hrg HB.out)
   have HOK:=hid (HG.out.ok _ (List.mem_map.2 ⟨_,List.getElem_mem hke,rfl⟩))
   have HSK:=hid (HS.out _ (List.getElem_mem hke))
   have HPV:RowKit.Hid (∀ m,k=m+1→∃ hm:m<l.length,wr.cell? ⟨b,off+m * 3,none⟩=some (.int .i64 l[m].year)∧wr.cell? ⟨b,off+m * 3+1,none⟩=some (.int .i64 l[m].crop)):=fun m hm=>by
    subst hm
    have hml:m<l.length:=by omega
    obtain ⟨b',off',e,_,hrg'⟩:=HR.out.vw.range (k:=3) (fun x _=>encRcd_len x) (by omega) m hml
    cases e
    exact ⟨hml,(rangeAt_below hrg' HB.out) 0 _ rfl,(rangeAt_below hrg' HB.out) 1 _ rfl⟩
   clear hrg
   obtain ⟨r,hr⟩:∃ r,l[k]=r:=⟨_,rfl⟩
   have HRK:=hid hr
   rw [hr] at HRG HOK HSK
   clear hr
   obtain ⟨y,cr,ra,rn,rc,rl⟩:=r
   dsimp only [encRcd] at HRG
   obtain ⟨⟨y1,y2⟩,⟨q1,q2⟩,hne,hv⟩:=HOK.out
   dsimp only [RcdM.pl] at y1 y2 q1 q2 hne hv
   have V:=hid hv
   have hn0:0<rn:=by have:=List.length_pos_iff.2 hne;have:=HSK.out.1.2.1;dsimp only at this;omega
   have b0:((rn:Int) == 0)=false:=by simp;omega
   clear hne hv
   have HV:=hid fun W (hW:Below w.heap.size w W)=>rvalid_any ra rn rc rl W (HSK.out.1.1.below hW) HSK.out.1.2.1 (by have:rn≤100000:=HSK.out.1.2.2;omega)
   obtain ⟨W1,hW1⟩:∃ W1,wr.alloc (.cells #[.int .i64 y,.int .i64 cr,.slice ra rn rc] 47)=W1:=⟨_,rfl⟩
   have BX:RowKit.Hid (Blk W1 wr.heap.size 47 #[.int .i64 y,.int .i64 cr,.slice ra rn rc]):=by show Blk _ _ _ _;rw [← hW1];exact Blk.new _ _ _
   have BW:RowKit.Hid (Below wr.heap.size wr W1):=by show Below _ _ _;rw [← hW1];exact Bw.out
   have x0:W1.cell? ⟨wr.heap.size,0,none⟩=some (.int .i64 y):=BX.out.cell 0
   have x1:W1.cell? ⟨wr.heap.size,1,none⟩=some (.int .i64 cr):=BX.out.cell 1
   have x2:W1.cell? ⟨wr.heap.size,2,none⟩=some (.slice ra rn rc):=BX.out.cell 2
   cases k with
   | zero =>
    go_wp2_with (first
     | (refine wpList_load_mid rfl 47 (.tmp 17) rfl b (off+0 * 3) rfl [.int .i64 y,.int .i64 cr,.slice ra rn rc] _ HRG.out Tryz.underlying47 rfl rdInfo ?_)
     | (refine st_new rfl 47 (.tmp 4) (.tmp 18) rfl #[.int .i64 y,.int .i64 cr,.slice ra rn rc] _ _ rfl rfl rdInfo rfl (rd_one _ _ _ _ _) ?_;rw [hW1])
     | (go_at_call 59;refine (HV.out _ (btr HB.out BW.out)).mono ?_;rintro e w1 ⟨b1,rfl,hi,hb1⟩;obtain rfl:b1=true:=hi.2 V.out;clear hi;have z0:=bc1 hb1 x0;have z1:=bc1 hb1 x1;have z2:=bc1 hb1 x2;have HB1:=hid hb1;clear hb1))
    go_quiet (fail)
    go_wp2
    go_roundw
    case rel=>exact ⟨1,by omega,by go_num,(fun j hj h hjk=>by omega),(by (repeat (with_reducible first | exact btr (btr HB.out BW.out) HB1.out | exact Below.refl _ _ | refine bdr ?_ | refine bdn ?_ _ | refine bal ?_ _)))⟩
    case measure=>simp [intOf];omega
   | succ m =>
    obtain ⟨hml,p0,p1⟩:=HPV.out m rfl
    obtain ⟨py,hpy⟩:∃ py,l[m].year=py:=⟨_,rfl⟩
    obtain ⟨pc,hpc⟩:∃ pc,l[m].crop=pc:=⟨_,rfl⟩
    rw [hpy] at p0
    rw [hpc] at p1
    have HLT:RowKit.Hid ((l[m]).pl.lt (l[m+1]).pl↔(py<y∨(py=y∧pc<cr))):=by
     show _↔_
     rw [HRK.out,← hpy,← hpc];exact Iff.rfl
    clear hpy hpc
    have hcs:y<py∨(y=py∧cr≤pc)∨(y=py∧pc<cr)∨py<y:=by omega
    rcases hcs with h1 | ⟨rfl,h2⟩ | ⟨rfl,h2⟩ | h1
    ·have d1:decide (y<py)=true:=decide_eq_true h1
     go_wp2_with (first
      | (refine wpList_load_mid rfl 47 (.tmp 17) rfl b (off+(m+1) * 3) rfl [.int .i64 y,.int .i64 cr,.slice ra rn rc] _ HRG.out Tryz.underlying47 rfl rdInfo ?_)
      | (refine st_new rfl 47 (.tmp 4) (.tmp 18) rfl #[.int .i64 y,.int .i64 cr,.slice ra rn rc] _ _ rfl rfl rdInfo rfl (rd_one _ _ _ _ _) ?_;rw [hW1])
      | (go_at_call 59;refine (HV.out _ (btr HB.out BW.out)).mono ?_;rintro e w1 ⟨b1,rfl,hi,hb1⟩;obtain rfl:b1=true:=hi.2 V.out;clear hi;have z0:=bc1 hb1 x0;have z1:=bc1 hb1 x1;have z2:=bc1 hb1 x2;have r0:=bc1 (btr BW.out hb1) p0;have r1:=bc1 (btr BW.out hb1) p1;have HB1:=hid hb1;clear hb1))
     go_quiet (fail)
     go_wp2
     go_ret
     refine ⟨3,rfl,hsort_bad (m:=m) (by simpa using hke) ?_,(by (repeat (with_reducible first | exact btr (btr HB.out BW.out) HB1.out | exact Below.refl _ _ | refine bdr ?_ | refine bdn ?_ _ | refine bal ?_ _)))⟩
     simp only [List.getElem_map]
     rw [HLT.out];omega
    ·have d1:decide (y<y)=false:=decide_eq_false (by omega)
     have d2:decide (cr≤pc)=true:=decide_eq_true h2
     go_wp2_with (first
      | (refine wpList_load_mid rfl 47 (.tmp 17) rfl b (off+(m+1) * 3) rfl [.int .i64 y,.int .i64 cr,.slice ra rn rc] _ HRG.out Tryz.underlying47 rfl rdInfo ?_)
      | (refine st_new rfl 47 (.tmp 4) (.tmp 18) rfl #[.int .i64 y,.int .i64 cr,.slice ra rn rc] _ _ rfl rfl rdInfo rfl (rd_one _ _ _ _ _) ?_;rw [hW1])
      | (go_at_call 59;refine (HV.out _ (btr HB.out BW.out)).mono ?_;rintro e w1 ⟨b1,rfl,hi,hb1⟩;obtain rfl:b1=true:=hi.2 V.out;clear hi;have z0:=bc1 hb1 x0;have z1:=bc1 hb1 x1;have z2:=bc1 hb1 x2;have r0:=bc1 (btr BW.out hb1) p0;have r1:=bc1 (btr BW.out hb1) p1;have HB1:=hid hb1;clear hb1))
     go_quiet (fail)
     go_wp2
     go_ret
     refine ⟨3,rfl,hsort_bad (m:=m) (by simpa using hke) ?_,(by (repeat (with_reducible first | exact btr (btr HB.out BW.out) HB1.out | exact Below.refl _ _ | refine bdr ?_ | refine bdn ?_ _ | refine bal ?_ _)))⟩
     simp only [List.getElem_map]
     rw [HLT.out];omega
    ·have d1:decide (y<y)=false:=decide_eq_false (by omega)
     have d2:decide (cr≤pc)=false:=decide_eq_false (by omega)
     go_wp2_with (first
      | (refine wpList_load_mid rfl 47 (.tmp 17) rfl b (off+(m+1) * 3) rfl [.int .i64 y,.int .i64 cr,.slice ra rn rc] _ HRG.out Tryz.underlying47 rfl rdInfo ?_)
      | (refine st_new rfl 47 (.tmp 4) (.tmp 18) rfl #[.int .i64 y,.int .i64 cr,.slice ra rn rc] _ _ rfl rfl rdInfo rfl (rd_one _ _ _ _ _) ?_;rw [hW1])
      | (go_at_call 59;refine (HV.out _ (btr HB.out BW.out)).mono ?_;rintro e w1 ⟨b1,rfl,hi,hb1⟩;obtain rfl:b1=true:=hi.2 V.out;clear hi;have z0:=bc1 hb1 x0;have z1:=bc1 hb1 x1;have z2:=bc1 hb1 x2;have r0:=bc1 (btr BW.out hb1) p0;have r1:=bc1 (btr BW.out hb1) p1;have HB1:=hid hb1;clear hb1))
     go_quiet (fail)
     go_wp2
     go_roundw
     case rel =>
      refine ⟨m+1+1,by omega,by go_num,fun j hj h hjk=>?_,(by (repeat (with_reducible first | exact btr (btr HB.out BW.out) HB1.out | exact Below.refl _ _ | refine bdr ?_ | refine bdn ?_ _ | refine bal ?_ _)))⟩
      by_cases e:j=m+1
      ·subst e
       exact HLT.out.2 (.inr ⟨by first | trivial | rfl,h2⟩)
      ·exact NO.out j hj h (by omega)
     case measure=>simp [intOf];omega
    ·have d1:decide (y<py)=false:=decide_eq_false (by omega)
     have d2:((y:Int) == py)=false:=by simp;omega
     go_wp2_with (first
      | (refine wpList_load_mid rfl 47 (.tmp 17) rfl b (off+(m+1) * 3) rfl [.int .i64 y,.int .i64 cr,.slice ra rn rc] _ HRG.out Tryz.underlying47 rfl rdInfo ?_)
      | (refine st_new rfl 47 (.tmp 4) (.tmp 18) rfl #[.int .i64 y,.int .i64 cr,.slice ra rn rc] _ _ rfl rfl rdInfo rfl (rd_one _ _ _ _ _) ?_;rw [hW1])
      | (go_at_call 59;refine (HV.out _ (btr HB.out BW.out)).mono ?_;rintro e w1 ⟨b1,rfl,hi,hb1⟩;obtain rfl:b1=true:=hi.2 V.out;clear hi;have z0:=bc1 hb1 x0;have z1:=bc1 hb1 x1;have z2:=bc1 hb1 x2;have r0:=bc1 (btr BW.out hb1) p0;have r1:=bc1 (btr BW.out hb1) p1;have HB1:=hid hb1;clear hb1))
     go_quiet (fail)
     go_wp2
     go_roundw
     case rel =>
      refine ⟨m+1+1,by omega,by go_num,fun j hj h hjk=>?_,(by (repeat (with_reducible first | exact btr (btr HB.out BW.out) HB1.out | exact Below.refl _ _ | refine bdr ?_ | refine bdn ?_ _ | refine bal ?_ _)))⟩
      by_cases e:j=m+1
      ·subst e
       exact HLT.out.2 (by omega)
      ·exact NO.out j hj h (by omega)
     case measure=>simp [intOf];omega
  ·have HSO:RowKit.Hid (HChk (l.map RcdM.pl) 0):=by
    refine ⟨fun _=>rfl,fun h=>absurd (fun j hj h0=>?_) h⟩
    simp only [List.getElem_map]
    exact NO.out j (by simpa using hj) h0 (by have:=HN.out;simp at hj;omega)
   clear NO
   go_wp2
   go_loopw [87] (fun i wx=>∃ k:Nat,k≤n∧i=.int .i64 k∧Below w.heap.size w wx) (fun i _=>n - (intOf i).toNat)
   case atStart=>exact ⟨0,Nat.zero_le _,rfl,HB.out⟩
   case round =>
    clear HB
    obtain ⟨k,hk,rfl,hb⟩:=hrel
    have HB:=hid hb
    clear hb
    by_cases hlt:k<n
    ·have hke:k<l.length:=by rw [HN.out];exact hlt
     obtain ⟨b,off,rfl,hbl,hrg⟩:=HR.out.vw.range (k:=3) (fun x _=>encRcd_len x) (by omega) k hke
     have HRG:=hid (rangeAt_below hrg HB.out)
     have HSK:=hid (HS.out _ (List.getElem_mem hke))
     have HLP:RowKit.Hid (∀ j,j<k→∀ hj:j<l.length,l[j].year=l[k].year→¬ Meet l[j].s.l l[k].s.l):=fun j hjk hj e=>by
      have:=HG.out.lap j k (by simpa using hke) hjk
      simp only [List.getElem_map] at this
      exact this e
     clear hrg
     obtain ⟨r,hr⟩:∃ r,l[k]=r:=⟨_,rfl⟩
     rw [hr] at HRG HSK HLP
     clear hr
     obtain ⟨y,cr,ra,rn,rc,rl⟩:=r
     dsimp only [encRcd] at HRG HLP
     have i0:(0:Int)≤(k:Int):=by omega
     have i2:(k:Int)≤(c:Int):=by omega
     obtain ⟨W1,hW1⟩:∃ W1,wr.alloc (.cells #[.int .i64 y,.int .i64 cr,.slice ra rn rc] 47)=W1:=⟨_,rfl⟩
     have BX:RowKit.Hid (Blk W1 wr.heap.size 47 #[.int .i64 y,.int .i64 cr,.slice ra rn rc]):=by show Blk _ _ _ _;rw [← hW1];exact Blk.new _ _ _
     have BW:RowKit.Hid (Below wr.heap.size wr W1):=by show Below _ _ _;rw [← hW1];exact Bw.out
     go_wp2_with (first
      | (refine wpList_load_mid rfl 47 (.tmp 90) rfl b (off+k * 3) rfl [.int .i64 y,.int .i64 cr,.slice ra rn rc] _ HRG.out Tryz.underlying47 rfl rdInfo ?_)
      | (refine st_new rfl 47 (.tmp 6) (.tmp 91) rfl #[.int .i64 y,.int .i64 cr,.slice ra rn rc] _ _ rfl rfl rdInfo rfl (rd_one _ _ _ _ _) ?_;rw [hW1]))
     obtain ⟨wo,rfl⟩:∃ wo:World,wo=wr:=⟨_,rfl⟩
     clear hW1
     go_loopw [96] (fun i wx=>∃ j:Nat,j≤k∧i=.int .i64 j∧Below W1.heap.size W1 wx) (fun i _=>k - (intOf i).toNat)
     case atStart=>exact ⟨0,Nat.zero_le _,rfl,Below.refl _ _⟩
     case round =>
      obtain ⟨j,hj,rfl,hb⟩:=hrel
      have HBJ:=hid hb
      have BXJ:=hid (BX.out.below hb)
      have x0:wr.cell? ⟨wo.heap.size,0,none⟩=some (.int .i64 y):=BXJ.out.cell 0
      have x2:wr.cell? ⟨wo.heap.size,2,none⟩=some (.slice ra rn rc):=BXJ.out.cell 2
      have y9:wo.heap.size<wr.heap.size:=BXJ.out.lt
      clear hb
      by_cases hltj:j<k
      ·have hje:j<l.length:=by omega
       obtain ⟨b',off',e',_,hrg⟩:=HR.out.vw.range (k:=3) (fun x _=>encRcd_len x) (by omega) j hje
       cases e'
       have HBW:=hid (btr (btr HB.out BW.out) HBJ.out)
       have HRJ:=hid (rangeAt_below hrg HBW.out)
       have HSJ:=hid (HS.out _ (List.getElem_mem hje))
       have HLJ:=hid (HLP.out j hltj hje)
       clear hrg
       obtain ⟨rj,hrj⟩:∃ rj,l[j]=rj:=⟨_,rfl⟩
       rw [hrj] at HRJ HSJ HLJ
       clear hrj
       obtain ⟨y',cr',ra',rn',rc',rl'⟩:=rj
       dsimp only [encRcd] at HRJ HLJ
       by_cases hy:y'=y
       ·subst hy
        have HM:=hid fun W (hW:Below wr.heap.size wr W)=>rmeets_any ra' rn' rc' rl' ra rn rc rl W (HSJ.out.1.below (btr HBW.out hW)) (HSK.out.1.below (btr HBW.out hW))
        go_wp2_with (first
         | (refine wpList_load_mid rfl 47 (.tmp 98) rfl b (off+j * 3) rfl [.int .i64 y',.int .i64 cr',.slice ra' rn' rc'] _ HRJ.out Tryz.underlying47 rfl rdInfo ?_)
         | (refine st_new rfl 47 (.tmp 8) (.tmp 99) rfl #[.int .i64 y',.int .i64 cr',.slice ra' rn' rc'] _ _ rfl rfl rdInfo rfl (rd_one _ _ _ _ _) ?_)
         | (go_at_call 25;refine (HM.out _ Bw.out).mono ?_;rintro e w1 ⟨b1,rfl,hi,hb1⟩;obtain rfl:b1=false:=no_true fun h=>HLJ.out rfl (hi.1 h).2.2;clear hi))
        go_roundw
        case rel=>exact ⟨j+1,by omega,by go_num,btr (by (repeat (with_reducible first | exact HBJ.out | exact Below.refl _ _ | refine bdr ?_ | refine bdn ?_ _ | refine bal ?_ _))) hb1⟩
        case measure=>simp [intOf];omega
       ·have hy':((y':Int) == y)=false:=by simpa using hy
        clear hy
        go_wp2_with (first
         | (refine wpList_load_mid rfl 47 (.tmp 98) rfl b (off+j * 3) rfl [.int .i64 y',.int .i64 cr',.slice ra' rn' rc'] _ HRJ.out Tryz.underlying47 rfl rdInfo ?_)
         | (refine st_new rfl 47 (.tmp 8) (.tmp 99) rfl #[.int .i64 y',.int .i64 cr',.slice ra' rn' rc'] _ _ rfl rfl rdInfo rfl (rd_one _ _ _ _ _) ?_))
        go_roundw
        case rel=>exact ⟨j+1,by omega,by go_num,(by (repeat (with_reducible first | exact HBJ.out | exact Below.refl _ _ | refine bdr ?_ | refine bdn ?_ _ | refine bal ?_ _)))⟩
        case measure=>simp [intOf];omega
      ·go_wp2
       go_roundw
       case rel=>exact ⟨k+1,by omega,by go_num,btr (btr HB.out BW.out) HBJ.out⟩
       case measure=>simp [intOf];omega
    ·go_wp2
     go_ret
     exact ⟨0,rfl,HSO.out,HB.out⟩
end Go.Proofs.YtancajcelmhnkaaGreatDoor
