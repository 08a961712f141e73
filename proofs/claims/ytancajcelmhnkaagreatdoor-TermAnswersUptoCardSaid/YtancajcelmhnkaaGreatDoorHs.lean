/- What came in: a term. -/
import Derived.Test.YtancajcelmhnkaaGreatDoorRchk
import Derived.Test.YtancajcelmhnkaaGreatDoorIc
set_option maxRecDepth 100000
set_option maxHeartbeats 4000000
namespace Go.Proofs.YtancajcelmhnkaaGreatDoor
open Go.RowKit Go.Shelf Go.ChangeShapes Go.WideShapes Go.Deep
set_option linter.unusedVariables false
theorem bulk_map {H:Type} (D:Nat→DataW H) (n:Nat) (T:Nat→TmM) (h:∀ i,i<n→(T i).pl.size≤Rows.uptoBulk (D i)):Tm.sizes (((List.range n).map T).map TmM.pl)≤Rows.uptoBulkAll ((List.range n).map D):=by
 induction n with
 | zero=>simp [Tm.sizes]
 | succ n ih =>
  rw [List.range_succ,List.map_append,List.map_append,List.map_append]
  have e:∀ l r:List (DataW H),Rows.uptoBulkAll (l++r)=Rows.uptoBulkAll l+Rows.uptoBulkAll r:=by
   intro l r
   induction l with
   | nil=>simp [Rows.uptoBulkAll]
   | cons x l ih=>simp only [List.cons_append,Rows.uptoBulkAll,ih];omega
  rw [e]
  have h1:=ih fun i hi=>h i (by omega)
  have h2:=h n (by omega)
  simp only [List.map_cons,List.map_nil,Rows.uptoBulkAll]
  rw [Tm.sizes_snoc]
  omega
theorem bulk_mem {H:Type} (D:Nat→DataW H) (n i:Nat) (h:i<n):Rows.uptoBulk (D i)≤Rows.uptoBulkAll ((List.range n).map D):=by
 have key:∀ (l:List (DataW H)) (d:DataW H),d ∈ l→Rows.uptoBulk d≤Rows.uptoBulkAll l:=by
  intro l d hd
  induction l with
  | nil=>cases hd
  | cons x r ih =>
   simp only [Rows.uptoBulkAll]
   rcases List.mem_cons.1 hd with rfl | hd
   ·omega
   ·have:=ih hd;omega
 exact key _ _ (List.mem_map.2 ⟨i,List.mem_range.2 h,rfl⟩)
section
variable {H:Type} {enc:TypeId × Value→H} {w:World} {base:Nat} {spare:Nat→Bool} {held:Bool}
theorem open_term (N:Nat):∀ {fuel:Nat} {cs:List Value} {x:DataW H × List MemPlace},Rows.uptoBulk x.1≤N→DataW.trod enc Tryz.prog w base spare held fuel 24 cs=some x →
  ∃ t:TmM,cs=encTm t∧TmOk w t∧t.pl.size≤Rows.uptoBulk x.1:=by
 induction N using Nat.strongRecOn with
 | _ N ihN =>
 intro fuel cs x hN h
 obtain ⟨xs,n',-,rfl,hl,hlen,hf⟩:=DataW.trod_struct Tryz.underlying24 h
 have ci:Tryz.prog.cellsOf 3=1:=by kernel_rfl
 have cs1:Tryz.prog.cellsOf 22=1:=by kernel_rfl
 have ct:Tryz.prog.cellsOf 24=4:=by kernel_rfl
 rw [ct] at hl
 match xs,hlen,cs,hl with
 | [y0,y1,y2,y3],_,[v0,v1,v2,v3],_ =>
 have f0:DataW.trod enc Tryz.prog w base spare held n' 3 [v0]=some y0:=by
  have:DataW.trod enc Tryz.prog w base spare held n' 3 (([v0,v1,v2,v3].drop 0).take (Tryz.prog.cellsOf 3))=[y0,y1,y2,y3][0]?:=hf 0 _ rfl
  rw [ci] at this
  exact this
 have f1:DataW.trod enc Tryz.prog w base spare held n' 3 [v1]=some y1:=by
  have:DataW.trod enc Tryz.prog w base spare held n' 3 (([v0,v1,v2,v3].drop 1).take (Tryz.prog.cellsOf 3))=[y0,y1,y2,y3][1]?:=hf 1 _ rfl
  rw [ci] at this
  exact this
 have f2:DataW.trod enc Tryz.prog w base spare held n' 3 [v2]=some y2:=by
  have:DataW.trod enc Tryz.prog w base spare held n' 3 (([v0,v1,v2,v3].drop 2).take (Tryz.prog.cellsOf 3))=[y0,y1,y2,y3][2]?:=hf 2 _ rfl
  rw [ci] at this
  exact this
 have f3:DataW.trod enc Tryz.prog w base spare held n' 22 [v3]=some y3:=by
  have:DataW.trod enc Tryz.prog w base spare held n' 22 (([v0,v1,v2,v3].drop 3).take (Tryz.prog.cellsOf 22))=[y0,y1,y2,y3][3]?:=hf 3 _ rfl
  rw [cs1] at this
  exact this
 obtain ⟨op,e0,rfl,-⟩:=DataW.trod_int Tryz.underlying3 f0
 obtain ⟨num,e1,rfl,-⟩:=DataW.trod_int Tryz.underlying3 f1
 obtain ⟨more,e2,rfl,-⟩:=DataW.trod_int Tryz.underlying3 f2
 cases e0;cases e1;cases e2
 simp only [List.map_cons,List.map_nil,Rows.uptoBulk,Rows.uptoBulkAll] at hN ⊢
 rcases open_slice Tryz.underlying22 f3 with ⟨e3,rfl⟩ | ⟨a,len,cap,m,k,D,Pl,e3,hb,hle,hcap,hm,rfl,hi⟩
 ·cases e3
  exact ⟨.mk op num more none 0 0 [],rfl,.mk _ _ _ _ _ _ _ (fun i v hi=>by simp [cellsOf] at hi) rfl (Nat.le_refl _) (Nat.zero_le _) (fun _=>rfl) (fun k hk=>by cases hk),by simp [TmM.pl,TmM.pls,Tm.size,Tm.sizes]⟩
 ·cases e3
  have hlm:len≤m:=by rw [hm];split <;> omega
  simp only [Rows.uptoBulk] at hN ⊢
  have hz:∀ i:Nat,∃ t:TmM,i<len→(w.cells? base (a.add (i * 4)) 4=some (encTm t)∧TmOk w t∧t.pl.size≤Rows.uptoBulk (D i)):=by
   intro i
   by_cases hil:i<len
   ·obtain ⟨cs',hc,ht⟩:=hi i (by omega)
    rw [ct] at hc
    have hbi:=bulk_mem D len i hil
    obtain ⟨t,rfl,h1,h2⟩:=ihN (Rows.uptoBulk (D i)) (by omega) (x:=(D i,Pl i)) (Nat.le_refl _) ht
    exact ⟨t,fun _=>⟨hc,h1,h2⟩⟩
   ·exact ⟨.mk 0 0 0 none 0 0 [],fun h=>absurd h hil⟩
  obtain ⟨T,hT⟩:=Classical.axiomOfChoice hz
  have hsz:=bulk_map D len T fun i hi=>(hT i hi).2.2
  refine ⟨.mk op num more (some a) len cap ((List.range len).map T),rfl,.mk _ _ _ _ _ _ _ (fun q v hq=>?_) (by simp) hle hcap (fun h=>by cases h) (fun k hk=>?_),?_⟩
  ·have hql:q<len * 4:=by
    have:=(List.getElem?_eq_some_iff.1 hq).1
    rw [cellsOf_length encTm_len] at this
    simpa using this
   have hil:q / 4<len:=by omega
   have hj:q % 4<4:=by omega
   have hqe:q=q / 4 * 4+q % 4:=by omega
   have h1:=cellsOf_at encTm_len ((List.range len).map T) (q / 4) (q % 4) (by simpa using hil) hj
   rw [← hqe,hq] at h1
   obtain ⟨-,-,hat⟩:=World.cells?_some (hT (q / 4) hil).1
   have h2:=hat (q % 4) hj
   have h3:(encTm (T (q / 4)))[q % 4]? = some v:=by simpa using h1.symm
   rw [h3] at h2
   obtain ⟨-,-,hat0⟩:=World.cells?_some (hT 0 (by omega)).1
   obtain ⟨v0,hv0⟩:∃ v0,(encTm (T 0))[0]? = some v0:=by cases T 0;exact ⟨_,rfl⟩
   have h4:=(hat0 0 (by omega)).trans hv0
   have hsp:=World.cell?_spot h4
   obtain ⟨b,off,spot⟩:=a
   have e0:((⟨b,off,spot⟩:Addr).add (0 * 4)).add 0=⟨b,off,spot⟩:=by simp [Addr.add]
   rw [e0] at hsp
   obtain rfl:spot=none:=hsp
   refine ⟨b,off,rfl,?_⟩
   have e:((⟨b,off,none⟩:Addr).add (q / 4 * 4)).add (q % 4)=⟨b,off+q,none⟩:=by
    rw [Addr.add_mid,Addr.add_mid,Nat.add_assoc,← hqe]
   rwa [e] at h2
  ·obtain ⟨i,hi',rfl⟩:=List.mem_map.1 hk
   exact (hT i (List.mem_range.1 hi')).2.1
  ·rw [TmM.pl_mk,Tm.size]
   omega
end
end Go.Proofs.YtancajcelmhnkaaGreatDoor
namespace Go.Proofs.YtancajcelmhnkaaGreatDoor
open Go.RowKit Go.Sort Go.Shelf
set_option linter.unusedVariables false
set_option linter.unusedSimpArgs false
def RsP (w:World) (most n:Nat) (e:Ending) (w':World):Prop:=∃ s:Nat,e=.returned (.int .i64 s)∧1≤s∧s≤n∧(s≤most→s=n)∧Below w.heap.size w w'
theorem lcount_any (t:TmM) (most:Nat) (hmo:most≤1000):∀ (w:World),TmOk w t→t.pl.size≤2147483647→Calls Tryz.prog 46 #[.agg (encTm t).toArray,.int .i64 most] w (RsP w most t.pl.size):=by
 induction t using TmM.ind with
 | h op num more a n c kids ih =>
  intro w h hz
  rw [TmM.pl_mk,Tm.size] at hz ⊢
  show Calls Tryz.prog _ #[.agg #[.int .i64 op,.int .i64 num,.int .i64 more,.slice a n c],.int .i64 most] w _
  have H:=hid h;have IH:=hid ih
  have HN:=hid h.len
  have hc:=h.few
  obtain ⟨W,hW⟩:∃ W,w.alloc (.cells #[.int .i64 op,.int .i64 num,.int .i64 more,.slice a n c] 24)=W:=⟨_,rfl⟩
  have B0:RowKit.Hid (Blk W w.heap.size 24 #[.int .i64 op,.int .i64 num,.int .i64 more,.slice a n c]):=by show Blk _ _ _ _;rw [← hW];exact Blk.new w _ _
  have BB:RowKit.Hid (Below w.heap.size w W):=by show Below _ _ _;rw [← hW];exact Bw.out
  have x3:W.cell? ⟨w.heap.size,3,none⟩=some (.slice a n c):=B0.out.cell 3
  have HZ:=hid hz
  clear h ih hz
  go_enter Tryz.func46,Tryz.ntmps46
  go_wp2
  go_loopw [5,11] (fun s i wr=>∃ (k m:Nat),k≤n∧i=.int .i64 k∧s=.int .i64 m∧1≤m∧m≤1+Tm.sizes ((kids.map TmM.pl).take k)∧(m≤most→m=1+Tm.sizes ((kids.map TmM.pl).take k))∧Below W.heap.size W wr) (fun _ i _=>n - (intOf i).toNat)
  case atStart=>exact ⟨0,1,Nat.zero_le _,rfl,rfl,Nat.le_refl _,by simp [Tm.sizes],fun _=>by simp [Tm.sizes],Below.refl _ _⟩
  case round =>
   obtain ⟨k,m,hk,rfl,rfl,m1,m2,m3,hb⟩:=hrel
   have HB:=hid hb;have M3:=hid m3
   have yb:=hb.size
   have HTL:=hid (Tm.sizes_take_le (kids.map TmM.pl) k)
   clear hb m3
   by_cases hlt:k<n
   ·have hke:k<kids.length:=by rw [HN.out];exact hlt
    obtain ⟨b,off,rfl,hbl,hrg⟩:=H.out.at_ hke
    have HRG:=hid (rangeAt_below hrg (btr BB.out HB.out))
    have hkm:k<(kids.map TmM.pl).length:=by rw [List.length_map];exact hke
    have HSZ:RowKit.Hid (Tm.sizes ((kids.map TmM.pl).take (k+1))=Tm.sizes ((kids.map TmM.pl).take k)+kids[k].pl.size):=by
     show _=_
     rw [List.take_succ_eq_append_getElem hkm,Tm.sizes_snoc,List.getElem_map]
    have HTL2:=hid (Tm.sizes_take_le (kids.map TmM.pl) (k+1))
    have HIH:=hid fun W' (hW':Below wr.heap.size wr W')=>IH.out _ (List.getElem_mem hke) W' ((H.out.kid (List.getElem_mem hke)).beh (btr (btr BB.out HB.out) hW')) (by have h1:=HTL2.out;have h2:=HSZ.out;have h3:=HZ.out;omega)
    clear hrg hkm
    obtain ⟨kt,hkt⟩:∃ kt,kids[k]=kt:=⟨_,rfl⟩
    rw [hkt] at HRG HSZ HIH
    clear hkt
    obtain ⟨sz,hsz⟩:∃ sz,Tm.sizes ((kids.map TmM.pl).take k)=sz:=⟨_,rfl⟩
    obtain ⟨sz2,hsz2⟩:∃ sz,Tm.sizes ((kids.map TmM.pl).take (k+1))=sz:=⟨_,rfl⟩
    have KS2:=hid hsz2
    rw [hsz] at HSZ HTL M3 m2
    rw [hsz2] at HSZ HTL2
    clear hsz hsz2
    obtain ⟨ks,hks⟩:∃ ks,kt.pl.size=ks:=⟨_,rfl⟩
    rw [hks] at HSZ HIH
    clear hks
    have b1:m≤2147483647:=by have h1:=HTL.out;have h3:=HZ.out;omega
    have b2:ks≤2147483647:=by have h1:=HTL2.out;have h2:=HSZ.out;have h3:=HZ.out;omega
    obtain ⟨op',num',more',a',n',c',kids'⟩:=kt
    dsimp only [encTm] at HRG HIH
    by_cases h40:m≤most
    ·have q40:(m:Int)≤(most:Int):=by omega
     go_wp2_with (first
      | (refine wpList_load_mid rfl 24 (.tmp 13) rfl b (off+k * 4) rfl [.int .i64 op',.int .i64 num',.int .i64 more',.slice a' n' c'] _ HRG.out Tryz.underlying24 rfl tmInfo ?_)
      | (refine st_new rfl 24 (.tmp 7) (.tmp 14) rfl #[.int .i64 op',.int .i64 num',.int .i64 more',.slice a' n' c'] _ _ rfl rfl tmInfo rfl (tm_one _ _ _ _ _ _) ?_)
      | (refine wpList_load_row rfl 24 (.tmp 7) rfl wr.heap.size rfl _ #[.int .i64 op',.int .i64 num',.int .i64 more',.slice a' n' c'] _ _ (Blk.new _ _ _) Tryz.underlying24 rfl tmInfo ?_)
      | (go_at_call 46;refine (HIH.out _ Bw.out).mono ?_;rintro e w2 ⟨s,rfl,s1,s2,s3,hb2⟩;have S3:=hid s3;clear s3;have Q2:RowKit.Hid (Below wr.heap.size wr w2):=btr Bw.out hb2;clear hb2))
     go_roundw
     case rel=>exact ⟨k+1,m+s,by omega,by go_num,by go_num,by omega,by rw [KS2.out,HSZ.out];omega,fun h=>by rw [KS2.out,HSZ.out];have h1:=M3.out h40;have h2:=S3.out (by omega);omega,btr HB.out Q2.out⟩
     case measure=>simp [intOf];omega
    ·have q40:¬ (m:Int)≤(most:Int):=by omega
     go_wp2_with (first
      | (refine wpList_load_mid rfl 24 (.tmp 13) rfl b (off+k * 4) rfl [.int .i64 op',.int .i64 num',.int .i64 more',.slice a' n' c'] _ HRG.out Tryz.underlying24 rfl tmInfo ?_)
      | (refine st_new rfl 24 (.tmp 7) (.tmp 14) rfl #[.int .i64 op',.int .i64 num',.int .i64 more',.slice a' n' c'] _ _ rfl rfl tmInfo rfl (tm_one _ _ _ _ _ _) ?_))
     go_roundw
     case rel=>exact ⟨k+1,m,by omega,by go_num,rfl,m1,by rw [KS2.out,HSZ.out];omega,fun h=>absurd h h40,btr HB.out Bw.out⟩
     case measure=>simp [intOf];omega
   ·obtain rfl:k=n:=by omega
    have e:(kids.map TmM.pl).take k=kids.map TmM.pl:=List.take_of_length_le (by rw [List.length_map];have:=HN.out;omega)
    rw [e] at M3 m2
    clear e
    go_wp2
    go_ret
    exact ⟨m,rfl,m1,m2,M3.out,btr BB.out HB.out⟩
theorem small_any (t:TmM) (most:Nat) (hmo:most≤1000) (w:World) (h:TmOk w t) (hz:t.pl.size≤2147483647) :
  Calls Tryz.prog 9 #[.agg (encTm t).toArray,.int .i64 most] w fun e w'=>e=.returned (.bool (decide (t.pl.size≤most)))∧Below w.heap.size w w':=by
 have HC:=hid fun W' (hW':Below w.heap.size w W')=>lcount_any t most hmo W' (h.beh hW') hz
 obtain ⟨sz,hsz⟩:∃ sz,t.pl.size=sz:=⟨_,rfl⟩
 rw [hsz] at HC ⊢
 clear h hz hsz
 obtain ⟨op,num,more,a,n,c,kids⟩:=t
 dsimp only [encTm] at HC ⊢
 go_enter Tryz.func9,Tryz.ntmps9
 go_wp2_with (first
  | (refine wpList_load_row rfl 24 (.tmp 2) rfl w.heap.size rfl _ #[.int .i64 op,.int .i64 num,.int .i64 more,.slice a n c] _ _ (Blk.new _ _ _) Tryz.underlying24 rfl tmInfo ?_)
  | (go_at_call 46;refine (HC.out _ Bw.out).mono ?_;rintro e w1 ⟨s,rfl,s1,s2,s3,hb1⟩;have S3:=hid s3;have B1:=hid (btr Bw.out hb1:Below w.heap.size w w1);clear s3 hb1))
 go_ret
 refine ⟨?_,B1.out⟩
 have e:decide (sz≤most)=decide (s≤most):=by
  have h3:=S3.out
  by_cases q:s≤most
  ·have:=h3 q
   rw [decide_eq_true (show sz≤most by omega),decide_eq_true q]
  ·rw [decide_eq_false (show ¬ sz≤most by omega),decide_eq_false q]
 rw [e]
 rfl
theorem oneMark_fin:∀ r:Fin 32,oneMark (r.val:Int)=decide (letV (mkByt r.val) ≠ 0):=by decide +kernel
def LtP (s:ByteArray) (w:World) (e:Ending) (w':World):Prop:=∃ m:Int,e=.returned (.tuple #[.int .i64 m,.bool (decide (letV s ≠ 0))])∧(letV s ≠ 0→m=letV s)∧w'=w
theorem rletter_any (s:ByteArray) (w:World):Calls Tryz.prog 124 #[.string s] w (LtP s w):=by
 have HU:=hid fun W=>runmarks_any s W
 have HS:=hid fun m W=>rsingle_any m W
 go_enter Tryz.func124,Tryz.ntmps124
 go_wp2_with (first
  | (go_at_call 169;refine (HU.out _).mono ?_;rintro e w1 ⟨r,ok,rfl,hy,hn,rfl⟩;have HY:=hid hy;have HN:=hid hn;clear hy hn)
  | (go_at_call 123;refine (HS.out _ _).mono ?_;rintro e w2 ⟨rfl,rfl⟩))
 all_goals go_ret2
 ·rename_i hok
  obtain ⟨h1,h2⟩:=HY.out hok
  subst h2
  have h3:=oneMark_fin ⟨r,h1⟩
  have h4:=letV_mk ⟨r,h1⟩
  simp only at h3 h4
  refine ⟨r,by rw [h3];rfl,fun h=>?_,rfl⟩
  rw [h4] at h ⊢
  split at h
  ·rename_i h5;rw [if_pos h5]
  ·exact absurd rfl h
 ·rename_i hok
  have h0:=letV_no (HN.out (by simpa using hok))
  exact ⟨r,by rw [h0];rfl,fun h=>absurd h0 h,rfl⟩
end Go.Proofs.YtancajcelmhnkaaGreatDoor
