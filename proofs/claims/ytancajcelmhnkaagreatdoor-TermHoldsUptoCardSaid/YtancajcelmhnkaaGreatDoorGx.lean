/- The keeper's world of law 16. -/
import Derived.Test.YtancajcelmhnkaaGreatDoorGq
set_option maxRecDepth 100000
set_option maxHeartbeats 4000000
namespace Go.Proofs.YtancajcelmhnkaaGreatDoor
open Go.RowKit Go.Sort Go.Shelf
set_option linter.unusedVariables false
set_option linter.unusedSimpArgs false
theorem line_apart {w:World} {p:Nat} {T:TypeId} {a b c:Int} {x:Option Addr} {n k:Nat} {s:Sc Rc} (hB:Blk w p T #[.int .i64 a,.slice x n k,.int .i64 b,.int .i64 c]) (h:ScOk2 w s) (hl:s.l ≠ []):∀ g off,s.a=some ⟨g,off,none⟩→g ≠ p:=by
 rintro g off e rfl
 obtain ⟨q,t,hq⟩:=List.exists_cons_of_ne_nil hl
 have h3:(rcCells s.l)[3]? = some (.int .i64 q.2.2.2):=by rw [hq];rfl
 have h1:(rcCells s.l)[1]? = some (.int .i64 q.2.1):=by rw [hq];rfl
 obtain ⟨c3,o3,e3,hc3⟩:=h.1.1 3 _ h3
 obtain ⟨c1,o1,e1,hc1⟩:=h.1.1 1 _ h1
 rw [e] at e3 e1
 cases e3
 cases e1
 rw [hB.cell] at hc3 hc1
 have ho:off+3<4:=by
  have:=(Array.getElem?_eq_some_iff.1 hc3).1
  simpa using this
 obtain rfl:off=0:=by omega
 simp at hc1
theorem ok_nil {w w':World} {s:Sc Rc} (h:ScOk2 w s) (hl:s.l=[]):ScOk2 w' s :=
 ⟨⟨fun i v hi=>by rw [hl] at hi;simp [rcCells,cellsOf] at hi,h.1.2⟩,h.2.1,fun k=>absurd hl k⟩
theorem ok_beside {w:World} {b p:Nat} {T:TypeId} {a bb c:Int} {x:Option Addr} {n k:Nat} {s:Sc Rc} {cs:Array Value} (hT:Tape w b) (hB:Blk w p T #[.int .i64 a,.slice x n k,.int .i64 bb,.int .i64 c]) (h:ScOk2 (hole b w) s):ScOk2 (hole b (w.setRow p cs)) s:=by
 by_cases hl:s.l=[]
 ·exact ok_nil h hl
 ·exact (ok_setRow h.fill (line_apart hB h.fill hl)).holed (tape_apart hT h.fill hl)
theorem vw_beside {w:World} {b p:Nat} {a:Option Addr} {xs:List Value} {cs:Array Value} (h:Vw (hole b w) a xs) (h1:∀ g off,a=some ⟨g,off,none⟩→p<g) (h2:∀ g off,a=some ⟨g,off,none⟩→b<g):Vw (hole b (w.setRow p cs)) a xs :=
 (vw_setRow h.fill fun g off e=>by have:=h1 g off e;omega).holed fun g off e=>by have:=h2 g off e;omega
theorem rws_beside {α:Type} {enc:α→List Value} {m:Nat} {s:Sc α} {w:World} {b p:Nat} {cs:Array Value} (h:Rws enc (hole b w) s m) (h1:∀ g off,s.a=some ⟨g,off,none⟩→p<g) (h2:b≤p):Rws enc (hole b (w.setRow p cs)) s m :=
 ⟨vw_beside h.vw h1 fun g off e=>by have:=h1 g off e;omega,h.len,h.few,h.nil⟩
structure KW (b:Nat) (w':World) (rc:Sc Rc) (crop:Int) (cr:Sc Crp) (hi:Sc RcdM) (zo:Sc FtrM) (year:Int):Prop where
 rok:ScOk2 (hole b w') rc
 can:IsCan (inRc rc.l) rc.l
 board:∀ x y,inRc rc.l x y→0≤x∧x<8∧0≤y∧y<8
 cok:0≤crop∧crop<cr.n
 crs:Rws encCrp (hole b w') cr 8
 cat:Cat cr.l
 marks:∀ c ∈ cr.l,mkB c=true
 three:3≤cr.n
 his:KHs b cr.n 4 w' hi
 hin:hi.n≤5
 lay:KL b w' zo
 zon:zo.n≤3
 yok:0≤year∧year<6
def KWorld (b:Nat) (w:World) (e:Ending) (w':World):Prop:=∃ (rc:Sc Rc) (crop:Int) (cr:Sc Crp) (hi:Sc RcdM) (zo:Sc FtrM) (year:Int),
 e=.returned (.tuple #[.agg #[.int .i64 0,.slice rc.a rc.n rc.c,.int .i64 crop,.int .i64 0],.slice cr.a cr.n cr.c,.slice hi.a hi.n hi.c,.slice zo.a zo.n zo.c,.int .i64 year])∧KW b w' rc crop cr hi zo year∧Steps1 b w w'
theorem lineInfo:(Tryz.prog.info? 42).map (·.size)=some 4:=by kernel_rfl
theorem line_one (a b c:Int) (s:Option Addr) (n k:Nat):(#[.int .i64 a,.slice s n k,.int .i64 b,.int .i64 c]:Array Value).all (·.oneCell')=true:=by
 rw [List.all_toArray];rfl
theorem kworld_any (b:Nat) (w:World) (hT:Tape w b) :
  Calls Tryz.prog 23 #[.pointer (some ⟨b,0,none⟩)] w (KWorld b w):=by
 have hlt:=hT.lt
 obtain ⟨W,hW⟩:∃ W,w.alloc (.cells #[.int .i64 0,.slice none 0 0,.int .i64 0,.int .i64 0] 42)=W:=⟨_,rfl⟩
 have B0:RowKit.Hid (Blk W w.heap.size 42 #[.int .i64 0,.slice none 0 0,.int .i64 0,.int .i64 0]):=by show Blk _ _ _ _;rw [← hW];exact Blk.new w _ _
 have S0:RowKit.Hid (Steps1 b w W):=by show Steps1 _ _ _;rw [← hW];exact sal (Steps1.refl hT) _
 have hpW:w.heap.size<W.heap.size:=B0.out.lt
 clear hT
 go_enter Tryz.func23,Tryz.ntmps23
 go_wp2_with (first
  | (go_at_call 12;refine (kcrops_any b W S0.out.now).mono ?_;rintro e w1 ⟨⟨ca,cn,cc,cl⟩,rfl,c1,c2,c3,c4,c5,hs1⟩;have C1:=hid c1;have C2:=hid c2;have C3:=hid c3;have C5:=hid c5;have S1:=hid (sts S0.out hs1);have B1:=hid (B0.out.step hs1 (by omega));have Z1:=hid hs1.size;dsimp only at c4;have cfew:cn≤8:=c1.few;clear c1 c2 c3 c5 hs1)
  | (go_at_call 31;refine (kregion_any b 8 3 w1 S1.out.now (by omega) (by omega) (by omega) (by omega)).mono ?_;rintro e w2 ⟨⟨ra,rn,rcc,rl⟩,rfl,r1,r2,r3,r4,hs2⟩;have R1:=hid r1;have R2:=hid r2;have R3:=hid r3;have D1:=hid (C1.out.below (hole_steps hs2));have S2:=hid (sts S1.out hs2);have B2:=hid (B1.out.step hs2 (by omega));have Z2:=hid hs2.size;clear r1 r2 r3 r4 hs2)
  | (go_at_call 16;first
   | ((with_reducible refine (next_any _ _ _ S5.out.now (by omega) (by omega)).mono ?_);rintro e w6 ⟨r6,p6,q6,rfl,hs6⟩;have S6:=hid (sts S5.out hs6);have B6:=hid (B5.out.step hs6 (by omega));have D6:=hid (D5.out.below (hole_steps hs6));have R6:=hid (R5.out.below (hole_steps hs6));have H6:=hid (H5.out.holed (hole_steps hs6));have L6:=hid (L5.out.holed (hole_steps hs6));clear hs6)
   | ((with_reducible refine (next_any _ _ _ S2.out.now (by omega) (by omega)).mono ?_);rintro e w3 ⟨r3,p3,q3,rfl,hs3⟩;have S3:=hid (sts S2.out hs3);have B3:=hid (B2.out.step hs3 (by omega));have D3:=hid (D1.out.below (hole_steps hs3));have R3':=hid (R1.out.below (hole_steps hs3));have Z3:=hid hs3.size;clear hs3))
  | (go_at_call 13;refine (khistory_any b ca cn cc 4 5 w3 S3.out.now (by omega) (by omega) (by omega) (by omega) (by omega) (by omega)).mono ?_;rintro e w4 ⟨⟨ha,hn,hc,hl⟩,rfl,h1,h2,h3,hs4⟩;have H4:=hid h1;have HF:=hid h3;have S4:=hid (sts S3.out hs4);have B4:=hid (B3.out.step hs4 (by omega));have D4:=hid (D3.out.below (hole_steps hs4));have R4:=hid (R3'.out.below (hole_steps hs4));have Z4:=hid hs4.size;dsimp only at h2;clear h1 h3 hs4)
  | (go_at_call 14;refine (klayer_any b 3 w4 S4.out.now (by omega) (by omega)).mono ?_;rintro e w5 ⟨⟨la,ln,lc,ll⟩,rfl,l1,l2,l3,hs5⟩;have L5:=hid l1;have LF:=hid l3;have S5:=hid (sts S4.out hs5);have B5:=hid (B4.out.step hs5 (by omega));have D5:=hid (D4.out.below (hole_steps hs5));have R5:=hid (R4.out.below (hole_steps hs5));have H5:=hid (H4.out.holed (hole_steps hs5));dsimp only at l2;clear l1 l3 hs5)
  | (refine wpList_store_row rfl 42 (.tmp 2) (.tmp 16) rfl w.heap.size #[.int .i64 0,.slice ra rn rcc,.int .i64 r3,.int .i64 0] rfl rfl _ _ B6.out lineInfo rfl (line_one _ _ _ _ _ _) ?_))
 have BR:=setRow_heap w6 w.heap.size _ #[.int .i64 0,.slice ra rn rcc,.int .i64 r3,.int .i64 0] _ _ B6.out
 have z0:=B0.out.lt
 have z1:=Z1.out;have z2:=Z2.out;have z3:=Z3.out;have z4:=Z4.out
 have t6:=S6.out.now
 refine bodyPost_ret (v:=.tuple #[.agg #[.int .i64 0,.slice ra rn rcc,.int .i64 r3,.int .i64 0],.slice ca cn cc,.slice ha hn hc,.slice la ln lc,.int .i64 r6]) (by simp [results,Tryz.results23,go_sem,Blk.cell BR]) rfl ?_
 refine ⟨⟨ra,rn,rcc,rl⟩,r3,⟨ca,cn,cc,cl⟩,⟨ha,hn,hc,hl⟩,⟨la,ln,lc,ll⟩,r6,rfl,⟨ok_beside t6 B6.out R6.out,R2.out,R3.out,⟨p3,q3⟩,rws_beside D6.out (fun g off e=>?_) (by omega),C2.out,C3.out,c4,?_,by dsimp only;omega,?_,by dsimp only;omega,⟨p6,q6⟩⟩,steps_setRow S6.out (Nat.le_refl _) _⟩
 ·have:=C5.out g off e;omega
 ·exact ⟨rws_beside H6.out.rws (fun g off e=>by have:=HF.out g off e;omega) (by omega),H6.out.cap,fun r hr=>ok_beside t6 B6.out (H6.out.rows r hr),H6.out.hist,H6.out.can,H6.out.low⟩
 ·exact ⟨rws_beside L6.out.rws (fun g off e=>by have:=LF.out g off e;omega) (by omega),L6.out.cap,fun r hr=>ok_beside t6 B6.out (L6.out.rows r hr),L6.out.lay,L6.out.can⟩
theorem infoTm:(Tryz.prog.info? 24).map (fun i=>(i.zero,i.size,i.bytes))=some (some (.agg #[.int .i64 0,.int .i64 0,.int .i64 0,.slice none 0 0]),4,48):=by kernel_rfl
theorem elTm:ElT Tryz.prog 22 24 4 48:=.mk' Tryz.underlying22 infoTm rfl (by decide) (by decide)
theorem bs_two {P:Program} {t e:TypeId} {size bytes:Nat} (T:ElT P t e size bytes) (hsz:size≤1000) {ops:Array Oper} {rest:List Oper} {o:Oper} {a:Act} {w:World} {Q:Exit→Act→World→Prop} (hg:o.guard=none) (x y:Operand) (ho:o.op=.buildSlice t 2 #[(0,x),(1,y)])
  (c1 c2:List Value) (hx:a.eval x=.agg c1.toArray) (hy:a.eval y=.agg c2.toArray) (h1:c1.length=size) (h2:c2.length=size)
  (h:wpList P ops Q rest (a.put o.dst (.slice (some ⟨w.heap.size,0,none⟩) 2 2)) (w.alloc (.cells (c1++c2).toArray e))):wpList P ops Q (o :: rest) a w:=by
 obtain ⟨⟨i,z,ht,hi,hz,hs,hb,hzs⟩,hs0,hb0⟩:=T
 refine wpList_buildSlice hg t e 2 #[(0,x),(1,y)] ho (c1++c2).toArray i z ht hi hz (by rw [hs];omega) (by rw [hs];omega) ?_ h
 have:=Great.fill_whole (s:=i.size) (by omega) [.agg c1.toArray,.agg c2.toArray] ((Array.range (2 * i.size)).map (z.cells[· % z.cells.size]!)) (by simp [Value.cells,hs,h1,h2]) (by simp)
 simpa [Value.cells,hx,hy] using this
inductive TmFr (base:Nat):TmM→Prop
 | mk (op num more:Int) (a:Option Addr) (n c:Nat) (kids:List TmM):(∀ g off,a=some ⟨g,off,none⟩→base≤g)→(∀ k ∈ kids,TmFr base k)→TmFr base (.mk op num more a n c kids)
theorem TmFr.le {base base':Nat} {t:TmM}:TmFr base t→base'≤base→TmFr base' t:=by
 induction t using TmM.ind with
 | h op num more a n c kids ih =>
  intro h hb
  cases h with
  | mk _ _ _ _ _ _ _ h1 h2=>exact .mk _ _ _ _ _ _ _ (fun g off e=>Nat.le_trans hb (h1 g off e)) fun k hk=>ih k hk (h2 k hk) hb
theorem TmOk.far {base:Nat} {w w':World} (hk:∀ g,base≤g→g<w.heap.size→w'.heap[g]? = w.heap[g]?) {t:TmM}:TmOk w t→TmFr base t→TmOk w' t:=by
 induction t using TmM.ind with
 | h op num more a n c kids ih =>
  intro h hf
  cases hf with
  | mk _ _ _ _ _ _ _ h1 h2 =>
   refine .mk _ _ _ _ _ _ _ (fun i v hi=>?_) h.len h.cap.1 h.cap.2 h.nil fun k hkk=>ih k hkk (h.kid hkk) (h2 k hkk)
   obtain ⟨g,off,e,hc⟩:=h.vw i v hi
   have hl:g<w.heap.size:=by
    by_cases e:g<w.heap.size
    ·exact e
    ·simp [World.cell?,Array.getElem?_eq_none (Nat.le_of_not_lt e)] at hc
   exact ⟨g,off,e,(World.cell?_of_block (w:=w) (w':=w') (a:=⟨g,off+i,none⟩) (hk g (h1 g off e) hl)).trans hc⟩
theorem TmOk.belowF {w w':World} {t:TmM} {base:Nat} (h:TmOk w t) (hf:TmFr base t) (hb:Below w.heap.size w w'):TmOk w' t:=h.far (fun g _ h2=>hb.block g h2) hf
theorem TmOk.setRowF {base g:Nat} {cs:Array Value} {w:World} {t:TmM} (h:TmOk w t) (hf:TmFr base t) (hg:g<base):TmOk (w.setRow g cs) t :=
 h.far (fun k h1 _=>setRow_other _ _ _ _ (by omega)) hf
theorem TmOk.holedF {base b:Nat} {w:World} {t:TmM} (h:TmOk w t) (hf:TmFr base t) (hb:b<base):TmOk (hole b w) t :=
 h.far (fun k h1 _=>hole_at w (by omega)) hf
structure KT (d:Nat) (base:Nat) (w':World) (t:TmM):Prop where
 ok:TmOk w' t
 fr:TmFr base t
 form:t.pl.form=true
 depth:t.pl.depth≤d+1
 size:t.pl.size≤2 ^ (d+1) - 1
theorem KT.leaf {d base:Nat} {w:World} {op num more:Int} (h:formB op num more 0=true):KT d base w (.mk op num more none 0 0 []) where
  ok:=.mk _ _ _ _ _ _ _ (fun i v hi=>by simp [cellsOf] at hi) rfl (Nat.le_refl _) (by decide) (fun _=>rfl) (fun k hk=>by cases hk)
  fr:=.mk _ _ _ _ _ _ _ (fun g off e=>by cases e) (fun k hk=>by cases hk)
  form:=by simp [TmM.pl,TmM.pls,Tm.form,Tm.forms,h]
  depth:=by simp [TmM.pl,TmM.pls,Tm.depth,Tm.depths]
  size:=by
    have : 1 ≤ 2 ^ (d + 1) - 1 := by have : 2 ^ (d + 1) = 2 * 2 ^ d := by rw [Nat.pow_succ, Nat.mul_comm]
                                     have:=Nat.one_le_two_pow (n:=d);omega
    simpa [TmM.pl,TmM.pls,Tm.size,Tm.sizes] using this
theorem KT.far {d base:Nat} {w w':World} {t:TmM} (h:KT d base w t) (hk:∀ g,base≤g→g<w.heap.size→w'.heap[g]? = w.heap[g]?):KT d base w' t:=⟨h.ok.far hk h.fr,h.fr,h.form,h.depth,h.size⟩
theorem KT.one {d base:Nat} {w:World} {op:Int} {t:TmM} (h:KT d base w t) (ho:op=11) (hb:base≤w.heap.size):KT (d+1) base (w.alloc (.cells (encTm t).toArray 24)) (.mk op 0 0 (some ⟨w.heap.size,0,none⟩) 1 1 [t]) where
 ok:=.mk _ _ _ _ _ _ _ (fun i v hi=>⟨_,0,rfl,by
  rw [Nat.zero_add,(Blk.new w _ _).cell i]
  simpa [cellsOf] using hi⟩) rfl (Nat.le_refl _) (by decide) (fun h=>by cases h) (fun k hk=>by rw [List.mem_singleton.1 hk];exact h.ok.belowF h.fr (bal (Below.refl _ _) _))
 fr:=.mk _ _ _ _ _ _ _ (fun g off e=>by cases e;exact hb) (fun k hk=>by rw [List.mem_singleton.1 hk];exact h.fr)
 form:=by subst ho;simp [TmM.pl,TmM.pls,Tm.form,Tm.forms,h.form,formB]
 depth:=by have:=h.depth;simp [TmM.pl,TmM.pls,Tm.depth,Tm.depths];omega
 size:=by
  have:=h.size
  have e:2 ^ (d+1+1)=2 * 2 ^ (d+1):=by rw [Nat.pow_succ,Nat.mul_comm]
  simp only [TmM.pl,TmM.pls,Tm.size,Tm.sizes]
  have:=Nat.one_le_two_pow (n:=d+1);omega
theorem KT.two {d base:Nat} {w:World} {op:Int} {t u:TmM} (h:KT d base w t) (k:KT d base w u) (ho:op=9∨op=10) (hb:base≤w.heap.size):KT (d+1) base (w.alloc (.cells (encTm t++encTm u).toArray 24)) (.mk op 0 0 (some ⟨w.heap.size,0,none⟩) 2 2 [t,u]) where
 ok:=.mk _ _ _ _ _ _ _ (fun i v hi=>⟨_,0,rfl,by
  rw [Nat.zero_add,(Blk.new w _ _).cell i]
  simpa [cellsOf] using hi⟩) rfl (Nat.le_refl _) (by decide) (fun h=>by cases h) (fun x hx=>by
   rcases List.mem_cons.1 hx with rfl | hx
   ·exact h.ok.belowF h.fr (bal (Below.refl _ _) _)
   ·rw [List.mem_singleton.1 hx];exact k.ok.belowF k.fr (bal (Below.refl _ _) _))
 fr:=.mk _ _ _ _ _ _ _ (fun g off e=>by cases e;exact hb) (fun x hx=>by
   rcases List.mem_cons.1 hx with rfl | hx
   ·exact h.fr
   ·rw [List.mem_singleton.1 hx];exact k.fr)
 form:=by rcases ho with rfl | rfl <;> simp [TmM.pl,TmM.pls,Tm.form,Tm.forms,h.form,k.form,formB]
 depth:=by have:=h.depth;have:=k.depth;simp [TmM.pl,TmM.pls,Tm.depth,Tm.depths];omega
 size:=by
  have:=h.size;have:=k.size
  have e:2 ^ (d+1+1)=2 * 2 ^ (d+1):=by rw [Nat.pow_succ,Nat.mul_comm]
  simp only [TmM.pl,TmM.pls,Tm.size,Tm.sizes]
  have:=Nat.one_le_two_pow (n:=d+1);omega
end Go.Proofs.YtancajcelmhnkaaGreatDoor
