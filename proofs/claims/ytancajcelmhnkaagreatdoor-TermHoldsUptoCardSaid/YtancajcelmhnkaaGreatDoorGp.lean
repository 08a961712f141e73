/- The keeper's land,features,layers,catalogues. -/
import Derived.Test.YtancajcelmhnkaaGreatDoorHt
import Derived.Test.YtancajcelmhnkaaGreatDoorHm
set_option maxRecDepth 100000
set_option maxHeartbeats 1000000
namespace Go.Proofs.YtancajcelmhnkaaGreatDoor
open Go.RowKit Go.Sort Go.Shelf
set_option linter.unusedVariables false
set_option linter.unusedSimpArgs false
def KLand (b:Nat) (side:Int) (w:World) (e:Ending) (w':World):Prop:=∃ s:Sc Rc,e=.returned (.agg #[.slice s.a s.n s.c])∧ScOk2 (hole b w') s∧IsCan (inRc s.l) s.l∧(∀ x y,inRc s.l x y→0≤x∧x<side∧0≤y∧y<side)∧s.l ≠ []∧(∀ g off,s.a=some ⟨g,off,none⟩→w.heap.size≤g)∧Steps1 b w w'
theorem can_one {q:Rc} (h1:q.1<q.2.2.1) (h2:q.2.1<q.2.2.2):IsCan (inRc [q]) [q]:=by
 refine ⟨[(q.2.1,q.2.2.2,[(q.1,q.2.2.1)])],?_,?_,fun x y=>?_⟩
 ·simp [Can,Gap,h1,h2]
 ·simp [flat]
 ·simp only [inBd,inRc,inSp,List.mem_singleton,exists_eq_left]
  omega
theorem blk_setRow {w:World} {g k:Nat} {t:TypeId} {cs xs:Array Value} (h:Blk w g t cs) (e:g ≠ k):Blk (w.setRow k xs) g t cs:=(setRow_other _ _ _ _ e).trans h
theorem ok_one (w:World) (q:Rc):ScOk2 (w.alloc (.cells (encRc q).toArray 87)) ⟨some ⟨w.heap.size,0,none⟩,1,1,[q]⟩:=by
 have hB:=Blk.new w 87 (encRc q).toArray
 refine ⟨⟨fun i v hi=>⟨_,0,rfl,?_⟩,rfl,by show 1≤100000;omega⟩,(fun h=>by cases h),fun _=>⟨_,0,_,_,rfl,hB,by decide⟩⟩
 rw [Nat.zero_add,hB.cell i]
 have e:rcCells [q]=encRc q:=by simp [rcCells,cellsOf]
 rw [e] at hi
 simpa using hi
theorem kl_next {b g n c:Nat} {a:Option Addr} {l:List Rc} {w w1 W1:World} (hW:w1.alloc (.cells #[.slice a n c] 38)=W1) (hs:Steps1 b w w1) (hB:Blk w1 g 38 #[.slice none 0 0]) (ho:ScOk2 (hole b w1) ⟨a,n,c,l⟩) :
  RowKit.Hid (Steps1 b w W1)∧RowKit.Hid (Blk W1 g 38 #[.slice none 0 0])∧RowKit.Hid (Blk W1 w1.heap.size 38 #[.slice a n c])∧RowKit.Hid (ScOk2 (hole b W1) ⟨a,n,c,l⟩)∧W1.cell? ⟨w1.heap.size,0,none⟩=some (.slice a n c):=by
 subst hW
 exact ⟨sal hs _,hB.alloc _,Blk.new _ _ _,ho.below (hole_steps (sal (Steps1.refl hs.now) _)),(Blk.new w1 _ _).cell 0⟩
theorem kland_any (b:Nat) (side most:Int) (w:World) (hT:Tape w b) (h1:1≤side) (h2:side≤10) (h3:0≤most) (h4:most≤100) :
  Calls Tryz.prog 89 #[.pointer (some ⟨b,0,none⟩),.int .i64 side,.int .i64 most] w (KLand b side w):=by
 have hlt:=hT.lt
 obtain ⟨W,hW⟩:∃ W,w.alloc (.cells #[.slice none 0 0] 38)=W:=⟨_,rfl⟩
 have B0:RowKit.Hid (Blk W w.heap.size 38 #[.slice none 0 0]):=by show Blk _ _ _ _;rw [← hW];exact Blk.new w _ _
 have S0:RowKit.Hid (Steps1 b w W):=by show Steps1 _ _ _;rw [← hW];exact sal (Steps1.refl hT) _
 have HRG:=hid (kregion_any b side most W S0.out.now h1 h2 h3 h4)
 clear hT
 go_enter Tryz.func89,Tryz.ntmps89
 go_wp2_with (first
  | (go_at_call 31;refine HRG.out.mono ?_;rintro e w1 ⟨⟨a1,n1,c1,l1⟩,rfl,s1,i1,d1,f1,hs1⟩;have OK1:=hid s1;have I1:=hid i1;have D1:=hid d1;have F1:=hid f1;have S1:=hid (sts S0.out hs1);have B1:=hid (B0.out.step hs1 (by omega));clear s1 i1 d1 f1 hs1)
  | (refine st_new rfl 38 (.tmp 7) (.tmp 11) rfl #[.slice a1 n1 c1] _ _ rfl rfl rgInfo rfl (rg_one _ _ _) ?_;obtain ⟨W1,hW1⟩:∃ W1,w1.alloc (.cells #[.slice a1 n1 c1] 38)=W1:=⟨_,rfl⟩;obtain ⟨S1a,B1a,BN,OK1a,bn0⟩:=kl_next hW1 S1.out B1.out OK1.out;rw [hW1])
  | (go_at_call 67;refine (krect_any _ _ _ S1a.out.now h1 (by omega)).mono ?_;rintro e w2 ⟨q,rfl,hq,hs2⟩;have Q2:=hid hq;have S2:=hid (sts S1a.out hs2);have B2:=hid (B1a.out.step hs2 (by omega));have BN2:=hid (BN.out.step hs2 (by have:=S1.out.size;omega));clear hq hs2)
  | (refine bs_one elRc (by decide) rfl (.tmp 18) rfl (encRc q).toArray rfl rfl ?_)
  | (refine wpList_store_row rfl 38 (.tmp 7) (.tmp 20) rfl w1.heap.size #[.slice (some ⟨w2.heap.size,0,none⟩) 1 1] rfl rfl _ _ (BN2.out.alloc _) rgInfo rfl (rg_one _ _ _) ?_)
  | (refine wpList_store_row rfl 38 (.tmp 6) (.tmp 21) rfl w.heap.size #[.slice a1 n1 c1] rfl rfl _ _ B1a.out rgInfo rfl (rg_one _ _ _) ?_)
  | (refine wpList_load_row rfl 38 (.tmp 7) rfl w1.heap.size rfl _ #[.slice (some ⟨w2.heap.size,0,none⟩) 1 1] _ _ (setRow_heap _ w1.heap.size _ #[.slice (some ⟨w2.heap.size,0,none⟩) 1 1] _ _ (BN2.out.alloc _)) Tryz.underlying38 rfl rgInfo ?_)
  | (refine wpList_store_row rfl 38 (.tmp 6) (.tmp 21) rfl w.heap.size #[.slice (some ⟨w2.heap.size,0,none⟩) 1 1] rfl rfl _ _ (blk_setRow (B2.out.alloc _) (by have:=B1.out.lt;omega)) rgInfo rfl (rg_one _ _ _) ?_))
 ·have z1:=B1.out.lt
  have z0:=B0.out.lt
  have BR:=setRow_heap _ w.heap.size _ #[.slice (some ⟨w2.heap.size,0,none⟩) 1 1] _ _ (blk_setRow (k:=w1.heap.size) (xs:=#[.slice (some ⟨w2.heap.size,0,none⟩) 1 1]) (B2.out.alloc (.cells (encRc q).toArray 87)) (by omega))
  refine bodyPost_ret (results_cell_row rfl _ _ _ _ _ _ _ rfl BR Tryz.underlying38 rfl rgInfo) rfl ?_
  have hst:Steps1 b w (((w2.alloc (.cells (encRc q).toArray 87)).setRow w1.heap.size #[.slice (some ⟨w2.heap.size,0,none⟩) 1 1]).setRow w.heap.size #[.slice (some ⟨w2.heap.size,0,none⟩) 1 1]):=steps_setRow (steps_setRow (sal S2.out _) (by omega) _) (Nat.le_refl _) _
  have y1:=BN2.out.lt
  have hq:=Q2.out
  unfold InSide at hq
  refine ⟨⟨_,1,1,[q]⟩,rfl,(ok_setRow (ok_setRow (ok_one w2 q) fun g off e=>?_) fun g off e=>?_).holed fun g off e=>?_,can_one hq.2.1 hq.2.2.2.2.1,fun x y k=>inSide_board (l:=[q]) (fun t ht=>by rw [List.mem_singleton.1 ht];exact Q2.out) x y k,(by simp),fun g off e=>?_,hst⟩
  all_goals (cases e;omega)
 ·have BR:=setRow_heap W1 w.heap.size _ #[.slice a1 n1 c1] _ _ B1a.out
  refine bodyPost_ret (results_cell_row rfl _ _ _ _ _ _ _ rfl BR Tryz.underlying38 rfl rgInfo) rfl ?_
  have h0:=‹(_ == (0:Int))=false›
  have z1:=B1.out.lt
  have z0:=B0.out.lt
  refine ⟨⟨a1,n1,c1,l1⟩,rfl,(ok_setRow (OK1a.out.fill) fun g off e=>?_).holed fun g off e=>?_,I1.out,D1.out,?_,fun g off e=>?_,steps_setRow S1a.out (Nat.le_refl _) _⟩
  ·have:=F1.out g off e;omega
  ·have:=F1.out g off e;omega
  ·intro e0
   dsimp only at e0
   have:=OK1.out.1.2.1
   dsimp only at this
   rw [e0] at this
   subst this
   simp at h0
  ·have:=F1.out g off e;omega
structure KFt (b:Nat) (num:Int) (w w':World) (f:FtrM):Prop where
 num:f.number=num
 ok:f.pl.Ok
 s:ScOk2 (hole b w') f.s
 can:IsCan (inRc f.s.l) f.s.l
 board:∀ x y,inRc f.s.l x y→0≤x∧x<9∧0≤y∧y<9
 fresh:∀ g off,f.s.a=some ⟨g,off,none⟩→w.heap.size≤g
 steps:Steps1 b w w'
def KFtP (b:Nat) (num:Int) (w:World) (e:Ending) (w':World):Prop:=∃ f:FtrM,e=.returned (.agg (encFtr f).toArray)∧KFt b num w w' f
theorem kfeature_any (b:Nat) (num:Int) (w:World) (hT:Tape w b) (h1:1≤num) (h2:num≤1000) :
  Calls Tryz.prog 50 #[.pointer (some ⟨b,0,none⟩),.int .i64 num] w (KFtP b num w):=by
 have hlt:=hT.lt
 obtain ⟨W,hW⟩:∃ W,w.alloc (.cells #[.int .i64 0,.int .i64 0,.int .i64 0,.int .i64 0,.slice none 0 0] 49)=W:=⟨_,rfl⟩
 have B0:RowKit.Hid (Blk W w.heap.size 49 #[.int .i64 0,.int .i64 0,.int .i64 0,.int .i64 0,.slice none 0 0]):=by show Blk _ _ _ _;rw [← hW];exact Blk.new w _ _
 have S0:RowKit.Hid (Steps1 b w W):=by show Steps1 _ _ _;rw [← hW];exact sal (Steps1.refl hT) _
 clear hT
 go_enter Tryz.func50,Tryz.ntmps50
 go_wp2_with (first
  | (go_at_call 16;first
   | ((with_reducible refine (next_any _ _ _ T1.out (by omega) (by omega)).mono ?_);rintro e w2 ⟨r2,p2,q2,rfl,hs2⟩;have T2:=hid hs2.now;have S2:=hid (sts S1.out hs2);have B2:=hid (B1.out.step hs2 (by omega));clear hs2)
   | ((with_reducible refine (next_any _ _ _ S0.out.now (by omega) (by omega)).mono ?_);rintro e w1 ⟨r1,p1,q1,rfl,hs1⟩;have T1:=hid hs1.now;have S1:=hid (sts S0.out hs1);have B1:=hid (B0.out.step hs1 (by omega));clear hs1))
  | (go_at_call 48;refine (range_any _ _ _ _ T2.out (by omega) (by omega) (by omega)).mono ?_;rintro e w3 ⟨r3,p3,q3,rfl,hs3⟩;have T3:=hid hs3.now;have S3:=hid (sts S2.out hs3);have B3:=hid (B2.out.step hs3 (by omega));clear hs3)
  | (go_at_call 89;refine (kland_any b 9 2 w3 T3.out (by omega) (by omega) (by omega) (by omega)).mono ?_;rintro e w4 ⟨⟨a4,n4,c4,l4⟩,rfl,s4,i4,d4,e4,f4,hs4⟩;have OK4:=hid s4;have I4:=hid i4;have D4:=hid d4;have F4:=hid f4;have E4:=hid e4;have S4:=hid (sts S3.out hs4);have B4:=hid (B3.out.step hs4 (by omega));clear s4 i4 d4 e4 f4 hs4)
  | (refine wpList_store_row rfl 49 (.tmp 4) (.tmp 18) rfl w.heap.size #[.int .i64 num,.int .i64 r2,.int .i64 r1,.int .i64 (r1+r3),.slice a4 n4 c4] rfl rfl _ _ B4.out ftInfo rfl (ft_one _ _ _ _ _ _ _) ?_))
 have BR:=setRow_heap w4 w.heap.size _ #[.int .i64 num,.int .i64 r2,.int .i64 r1,.int .i64 (r1+r3),.slice a4 n4 c4] _ _ B4.out
 refine bodyPost_ret (results_cell_row rfl _ _ _ _ _ _ _ rfl BR Tryz.underlying49 rfl ftInfo) rfl ?_
 have z1:=S3.out.size
 have z0:=B0.out.lt
 have z3:=B3.out.lt
 have hfr:∀ g off,a4=some ⟨g,off,none⟩→w.heap.size<g:=fun g off e=>by have:=F4.out g off e;omega
 refine ⟨⟨num,r2,r1,r1+r3,⟨a4,n4,c4,l4⟩⟩,rfl,rfl,⟨?_,?_,?_,?_,?_⟩,(ok_setRow OK4.out.fill fun g off e=>?_).holed fun g off e=>?_,I4.out,D4.out,fun g off e=>?_,steps_setRow S4.out (Nat.le_refl _) _⟩
 ·exact ⟨h1,show num≤1073741824 by omega⟩
 ·exact ⟨p2,show r2≤15 by omega⟩
 ·exact ⟨p1,show r1<r1+r3 by omega,show r1+r3≤36865 by omega⟩
 ·exact E4.out
 ·exact vld_can I4.out fun x y k=>by have:=D4.out x y k;omega
 all_goals (have:=hfr g off e;omega)
structure KL (b:Nat) (w:World) (s:Sc FtrM):Prop where
 rws:Rws encFtr (hole b w) s 58
 cap:s.n≤s.c∧s.c≤maxLen∧(s.a=none→s.c=0)
 rows:∀ r ∈ s.l,ScOk2 (hole b w) r.s
 lay:LayOk (s.l.map FtrM.pl)
 can:∀ r ∈ s.l,IsCan (inRc r.s.l) r.s.l∧∀ x y,inRc r.s.l x y→0≤x∧x<9∧0≤y∧y<9
theorem KL.nil (b:Nat) (w:World):KL b w ⟨none,0,0,[]⟩ :=
 ⟨⟨fun i v hi=>by simp [cellsOf] at hi,rfl,Nat.zero_le _,fun _=>rfl⟩,⟨Nat.le_refl _,by decide,fun _=>rfl⟩,(fun r hr=>by cases hr),LayOk.of (by simp) (fun r hr=>by cases hr) .nil,fun r hr=>by cases hr⟩
theorem KL.holed {b:Nat} {w w':World} {s:Sc FtrM} (h:KL b w s) (hs:Below (hole b w).heap.size (hole b w) (hole b w')):KL b w' s :=
 ⟨h.rws.below hs,h.cap,fun r hr=>(h.rows r hr).below hs,h.lay,h.can⟩
def FApart (a:Option Addr) (l:List FtrM):Prop:=∀ r ∈ l,r.s.l ≠ []→∀ q o,r.s.a=some ⟨q,o,none⟩→∀ g off,a=some ⟨g,off,none⟩→q<g
theorem ok_lt {w:World} {s:Sc Rc} (h:ScOk2 w s) (hl:s.l ≠ []):∀ q o,s.a=some ⟨q,o,none⟩→q<w.heap.size:=fun q o e=>by
 obtain ⟨b,off,T,cs,h1,h2,_⟩:=h.2.2 hl
 rw [h1] at e
 cases e
 exact h2.lt
def KLAdd (b:Nat) (w:World) (n:Nat) (e:Ending) (w':World):Prop:=∃ (a3:Option Addr) (n3 c3:Nat) (l3:List FtrM) (k:Int),e=.returned (.tuple #[.slice a3 n3 c3,.int .i64 k])∧(k=0→KL b w' ⟨a3,n3,c3,l3⟩∧n3=n+1∧(∀ g off,a3=some ⟨g,off,none⟩→w.heap.size≤g)∧Wrt w' a3∧FApart a3 l3)∧Below w.heap.size w w'
theorem kladd_any (b:Nat) (num:Int) (w0 w:World) (s:Sc FtrM) (f:FtrM) (hb:b<w.heap.size) (hl:KL b w s) (hn:s.n<58) (hf:KFt b num w0 w f) :
  Calls Tryz.prog 49 #[.slice s.a s.n s.c,.agg (encFtr f).toArray] w (KLAdd b w s.n):=by
 refine (fadd_any s f w hl.rws.fill hl.cap (fun r hr=>(hl.rows r hr).fill) hl.lay hf.s.fill hf.ok).mono ?_
 rintro e w' (⟨rfl,hb'⟩ | ⟨l1,l2,a,n,c,hsl,g1,g2,rfl,hown,hn3,hb'⟩)
 ·exact ⟨none,0,0,[],6,rfl,(fun h=>by cases h),hb'⟩
 ·have hlen:s.l.length=s.n:=hl.rws.len
  have hbb:=hole_below hb' hb
  have hmem:∀ r ∈ l1++[f]++l2,r=f∨r ∈ s.l:=fun r hr=>by
   rw [hsl]
   simp only [List.mem_append,List.mem_singleton] at hr ⊢
   rcases hr with (h | h) | h
   ·exact .inr (.inl h)
   ·exact .inl h
   ·exact .inr (.inr h)
  obtain ⟨a',c',he,hc1,hc2,hc3⟩:=own_form hown
  cases he
  have hn4:n=s.n+1:=by
   rw [hn3,← hlen,hsl];simp;omega
  refine ⟨a,n,c,l1++[f]++l2,0,rfl,fun _=>⟨⟨⟨vw_of_own (own_hole hown hb),hn3.symm,by dsimp only;omega,?_⟩,⟨hc1,hc2,?_⟩,fun r hr=>?_,?_,fun r hr=>?_⟩,hn4,fun g off e=>?_,wrt_own hown,fun r hr hrl q o eq g off e=>?_⟩,hb'⟩
  ·intro e
   rcases hc3 with ⟨-,h,-⟩ | ⟨g,h,-⟩
   ·exact h
   ·dsimp only at e;rw [e] at h;cases h
  ·intro e
   rcases hc3 with ⟨-,-,h⟩ | ⟨g,h,-⟩
   ·exact h
   ·dsimp only at e;rw [e] at h;cases h
  ·rcases hmem r hr with rfl | h
   ·exact hf.s.below hbb
   ·exact (hl.rows r h).below hbb
  ·have h1:=hl.lay
   rw [hsl,List.map_append] at h1
   simp only [List.map_append,List.map_cons,List.map_nil]
   refine layOk_ins h1 ?_ hf.ok (fun a ha=>?_) fun b hb=>?_
   ·rw [← List.map_append,← hsl,List.length_map,hlen];omega
   ·obtain ⟨g,hg,rfl⟩:=List.mem_map.1 ha
    exact g1 g hg
   ·rw [List.head?_map] at hb
    obtain ⟨g,hg,rfl⟩:=Option.map_eq_some_iff.1 hb
    exact g2 g hg
  ·rcases hmem r hr with rfl | h
   ·exact ⟨hf.can,hf.board⟩
   ·exact hl.can r h
  ·rcases hc3 with ⟨h,-⟩ | ⟨g',h,h',-⟩
   ·rw [h] at e;cases e
   ·rw [h] at e;cases e;exact h'
  ·have hq:q<w.heap.size:=by
    rcases hmem r hr with rfl | h
    ·exact ok_lt hf.s.fill hrl q o eq
    ·exact ok_lt (hl.rows r h).fill hrl q o eq
   rcases hc3 with ⟨h,-⟩ | ⟨g',h,h',-⟩
   ·rw [h] at e;cases e
   ·rw [h] at e;cases e;omega
def KLay (b:Nat) (cnt:Int) (w:World) (e:Ending) (w':World):Prop:=∃ s:Sc FtrM,e=.returned (.slice s.a s.n s.c)∧KL b w' s∧s.n≤cnt∧(∀ g off,s.a=some ⟨g,off,none⟩→w.heap.size≤g)∧Steps1 b w w'
def KLayW (b:Nat) (cnt:Int) (w:World) (e:Ending) (w':World):Prop:=∃ s:Sc FtrM,e=.returned (.slice s.a s.n s.c)∧KL b w' s∧s.n≤cnt∧(∀ g off,s.a=some ⟨g,off,none⟩→w.heap.size≤g)∧Steps1 b w w'∧Wrt w' s.a∧FApart s.a s.l
theorem klayerW_any (b:Nat) (cnt:Int) (w:World) (hT:Tape w b) (h1:0≤cnt) (h2:cnt≤50) :
  Calls Tryz.prog 14 #[.pointer (some ⟨b,0,none⟩),.int .i64 cnt] w (KLayW b cnt w):=by
 have hlt:=hT.lt
 have T0:=hid hT
 clear hT
 go_enter Tryz.func14,Tryz.ntmps14
 go_wp2_with (go_at_call 16;refine (next_any _ _ _ T0.out (by omega) (by omega)).mono ?_;rintro e w1 ⟨r1,p1,q1,rfl,hs1⟩;have S1:=hid hs1;clear hs1)
 go_loopw [5,6] (fun v i wr=>∃ (m:Nat) (s:Sc FtrM),v=.slice s.a s.n s.c∧i=.int .i64 m∧(s.n:Int)+m≤cnt∧KL b wr s∧(∀ g off,s.a=some ⟨g,off,none⟩→w.heap.size≤g)∧Steps1 b w wr∧Wrt wr s.a∧FApart s.a s.l) (fun _ i _=>(intOf i).toNat)
 case atStart=>exact ⟨r1.toNat,⟨none,0,0,[]⟩,rfl,by rw [Int.toNat_of_nonneg p1],by dsimp only;omega,KL.nil _ _,(fun g off e=>by cases e),S1.out,wrt_nil _,fun r hr=>by cases hr⟩
 case round =>
  obtain ⟨m,⟨a,n,c,l⟩,rfl,rfl,hm,hl,hfr,hs,hw,hap⟩:=hrel
  have HW:=hid hw;have HAP:=hid hap
  have HL:=hid hl;have HS:=hid hs;have HFR:=hid hfr
  dsimp only at hm
  clear hl hs hfr hw hap
  by_cases hgt:0<m
  ·go_wp2_with (first
    | (go_at_call 48;refine (range_any _ _ _ _ HS.out.now (by omega) (by omega) (by omega)).mono ?_;rintro e w3 ⟨r3,p3,q3,rfl,hs3⟩;have S3:=hid (sts HS.out hs3);have L3:=hid (HL.out.holed (hole_steps hs3));have W3:=hid (HW.out.step hs3 fun g off e=>by have:=HFR.out g off e;omega);clear hs3)
    | (go_at_call 50;refine (kfeature_any _ _ _ S3.out.now p3 (by omega)).mono ?_;rintro e w4 ⟨f,rfl,hf⟩;have HF:=hid hf;have S4:=hid (sts S3.out hf.steps);have L4:=hid (L3.out.holed (hole_steps hf.steps));have W4:=hid (W3.out.step hf.steps fun g off e=>by have:=HFR.out g off e;omega);clear hf)
    | (go_at_call 49;refine (kladd_any b r3 w3 w4 ⟨a,n,c,l⟩ f S4.out.now.lt L4.out (by dsimp only;omega) HF.out).mono ?_;rintro e w5 ⟨a5,n5,c5,l5,k5,rfl,hk5,hb5⟩;have HK5:=hid hk5;have S5:=hid (stb S4.out hb5);have W5:=hid (W4.out.below hb5);have L5:=hid (L4.out.holed (hole_below hb5 S4.out.now.lt));clear hk5 hb5))
   all_goals go_roundw
   ·have h0:=‹(k5 == (0:Int))=true›
    obtain ⟨hk,hn5,hf5,hw5,ha5⟩:=HK5.out (by simpa using h0)
    exact ⟨m - 1,⟨a5,n5,c5,l5⟩,rfl,by go_num,by dsimp only at hn5 ⊢;omega,hk,(fun g off e=>Nat.le_trans S4.out.size (hf5 g off e)),S5.out,hw5,ha5⟩
   ·simp [intOf];omega
   ·exact ⟨m - 1,⟨a,n,c,l⟩,rfl,by go_num,by dsimp only;omega,L5.out,HFR.out,S5.out,W5.out,HAP.out⟩
   ·simp [intOf];omega
  ·have hm0:m=0:=by omega
   subst hm0
   go_wp2
   go_ret
   exact ⟨⟨a,n,c,l⟩,rfl,HL.out,by dsimp only;omega,HFR.out,HS.out,HW.out,HAP.out⟩
theorem klayer_any (b:Nat) (cnt:Int) (w:World) (hT:Tape w b) (h1:0≤cnt) (h2:cnt≤50) :
  Calls Tryz.prog 14 #[.pointer (some ⟨b,0,none⟩),.int .i64 cnt] w (KLay b cnt w) :=
 (klayerW_any b cnt w hT h1 h2).mono fun e w' ⟨s,h1,h2,h3,h4,h5,_⟩=>⟨s,h1,h2,h3,h4,h5⟩
end Go.Proofs.YtancajcelmhnkaaGreatDoor
