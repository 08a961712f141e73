/- The keeper's rectangles and regions;what is made beside the tape. -/
import Derived.Test.YtancajcelmhnkaaGreatDoorGk
import Derived.Test.YtancajcelmhnkaaGreatDoorGm
set_option maxRecDepth 100000
set_option maxHeartbeats 4000000
namespace Go.Proofs.YtancajcelmhnkaaGreatDoor
open Go.RowKit Go.Sort Go.Shelf
set_option linter.unusedVariables false
set_option linter.unusedSimpArgs false
theorem own_step {w w':World} {b base n size:Nat} {v:Value} {e:TypeId} {xs:List Value} (h:w.ownsRow base e size v n xs) (hs:Steps1 b w w') (hb:b<base):w'.ownsRow base e size v n xs :=
 h.kept hs.grown (by
  cases hv:v.ownBlock with
  | none=>exact .inl rfl
  | some g=>have:=(h.lt g hv).1;exact .inr fun e=>by cases e;omega)
theorem steps_app {w wr w2:World} {b k n:Nat} {t:TypeId} {v:Value} {xs:List Value} (hs:Steps1 b w wr) (ho:wr.ownsRow w.heap.size t k v n xs) (hg:wr.grownBy w2 v.ownBlock):Steps1 b w w2:=by
 have hk:∀ i,i<w.heap.size→w2.heap[i]? = wr.heap[i]?:=fun i hi=>hg.block i (Nat.lt_of_lt_of_le hi hs.size) fun e=>by
  have:=(ho.lt i e.symm).1
  omega
 refine ⟨hs.was,⟨hg.os.trans hs.grown.os,hg.tape.trans hs.grown.tape,hg.output.trans hs.grown.output,Nat.le_trans hs.size hg.size,fun i hi hn=>(hk i hi).trans (hs.grown.block i hi hn)⟩,hs.now.keep fun i hi=>hk i (Nat.lt_of_le_of_lt hi hs.lt)⟩
theorem steps_setRow {w w1:World} {b g:Nat} (hs:Steps1 b w w1) (hg:w.heap.size≤g) (cs:Array Value):Steps1 b w (w1.setRow g cs):=by
 have hk:∀ i,i<w.heap.size→(w1.setRow g cs).heap[i]? = w1.heap[i]?:=fun i hi=>setRow_other _ _ _ _ (by omega)
 exact ⟨hs.was,⟨hs.grown.os,hs.grown.tape,hs.grown.output,by simpa [World.setRow] using hs.size,fun i hi hn=>(hk i hi).trans (hs.grown.block i hi hn)⟩,hs.now.keep fun i hi=>hk i (Nat.lt_of_le_of_lt hi hs.lt)⟩
theorem rc_one (q:Rc):((encRc q).toArray).all (·.oneCell')=true:=by
 rw [List.all_toArray];rfl
def InSide (side:Int) (q:Rc):Prop:=0≤q.1∧q.1<q.2.2.1∧q.2.2.1≤side∧0≤q.2.1∧q.2.1<q.2.2.2∧q.2.2.2≤side
def KRect (b:Nat) (side:Int) (w:World) (e:Ending) (w':World):Prop:=∃ q:Rc,e=.returned (.agg (encRc q).toArray)∧InSide side q∧Steps1 b w w'
theorem krect_any (b:Nat) (side:Int) (w:World) (hT:Tape w b) (h1:1≤side) (h2:side≤1000) :
  Calls Tryz.prog 67 #[.pointer (some ⟨b,0,none⟩),.int .i64 side] w (KRect b side w):=by
 have hlt:=hT.lt
 obtain ⟨W,hW⟩:∃ W,w.alloc (.cells #[.int .i64 0,.int .i64 0,.int .i64 0,.int .i64 0] 87)=W:=⟨_,rfl⟩
 have T0:RowKit.Hid (Tape W b):=by show Tape _ _;rw [← hW];exact hT.alloc _
 have B0:RowKit.Hid (Blk W w.heap.size 87 #[.int .i64 0,.int .i64 0,.int .i64 0,.int .i64 0]):=by show Blk _ _ _ _;rw [← hW];exact Blk.new w _ _
 have S0:RowKit.Hid (Steps1 b w W):=by show Steps1 _ _ _;rw [← hW];exact sal (Steps1.refl hT) _
 clear hT
 go_enter Tryz.func67,Tryz.ntmps67
 go_wp2_with (first
  | (go_at_call 16;first
   | ((with_reducible refine (next_any _ _ _ T3.out (by omega) (by omega)).mono ?_);rintro e w4 ⟨r4,p4,q4,rfl,hs4⟩;have T4:=hid hs4.now;have S4:=hid (sts S3.out hs4);have B4:=hid (B3.out.step hs4 (by omega));clear hs4)
   | ((with_reducible refine (next_any _ _ _ T2.out (by omega) (by omega)).mono ?_);rintro e w3 ⟨r3,p3,q3,rfl,hs3⟩;have T3:=hid hs3.now;have S3:=hid (sts S2.out hs3);have B3:=hid (B2.out.step hs3 (by omega));clear hs3)
   | ((with_reducible refine (next_any _ _ _ T1.out (by omega) (by omega)).mono ?_);rintro e w2 ⟨r2,p2,q2,rfl,hs2⟩;have T2:=hid hs2.now;have S2:=hid (sts S1.out hs2);have B2:=hid (B1.out.step hs2 (by omega));clear hs2)
   | ((with_reducible refine (next_any _ _ _ T0.out (by omega) (by omega)).mono ?_);rintro e w1 ⟨r1,p1,q1,rfl,hs1⟩;have T1:=hid hs1.now;have S1:=hid (sts S0.out hs1);have B1:=hid (B0.out.step hs1 (by omega));clear hs1))
  | (refine wpList_store_row rfl 87 (.tmp 4) (.tmp 31) rfl w.heap.size (encRc (r1,r2,r1+1+r3,r2+1+r4)).toArray rfl rfl _ _ B4.out rcInfo4 rfl (rc_one _) ?_))
 refine bodyPost_ret (results_cell_row rfl _ _ _ _ _ _ _ rfl (setRow_heap w4 w.heap.size _ (encRc (r1,r2,r1+1+r3,r2+1+r4)).toArray _ _ B4.out) Tryz.underlying87 rfl rcInfo4) rfl ?_
 exact ⟨_,rfl,by unfold InSide;dsimp only;omega,steps_setRow S4.out (Nat.le_refl _) _⟩
theorem inSide_board {side:Int} {l:List Rc} (h:∀ q ∈ l,InSide side q) (x y:Int) (k:inRc l x y):0≤x∧x<side∧0≤y∧y<side:=by
 obtain ⟨q,hq,k⟩:=k
 have:=h q hq
 unfold InSide at this
 omega
theorem of_any (a:Option Addr) (n c:Nat) (l:List Rc) (w:World) (hV:Vw w a (rcCells l)) (hn:l.length=n) (hm:n≤120) (hp:∀ q ∈ l,InSide 10 q) :
  Calls Tryz.prog 68 #[.slice a n c] w (RegP w (inRc l)):=by
 obtain ⟨W,hW⟩:∃ W,w.alloc (.cells #[.slice none 0 0] 38)=W:=⟨_,rfl⟩
 have B1:RowKit.Hid (Blk W w.heap.size 38 #[.slice none 0 0]):=by show Blk _ _ _ _;rw [← hW];exact Blk.new w _ _
 have BB:RowKit.Hid (Below w.heap.size w W):=by show Below _ _ _;rw [← hW];exact Bw.out
 have HV:=hid (hV.below BB.out);have HN:=hid hn;have HP:=hid hp
 have h1:¬ (120:Int)<(n:Int):=by omega
 clear hV hn hp
 go_enter Tryz.func68,Tryz.ntmps68
 go_wp2
 go_loopw [12] (fun i wr=>∃ k:Nat,k≤n∧i=.int .i64 k∧Below W.heap.size W wr) (fun i _=>n - (intOf i).toNat)
 case atStart=>exact ⟨0,Nat.zero_le _,rfl,Below.refl _ _⟩
 case round =>
  obtain ⟨k,hk,rfl,hb⟩:=hrel
  have HB:=hid hb
  clear hb
  by_cases hlt:k<n
  ·have g1:k<l.length:=by have:=HN.out;omega
   obtain ⟨b,off,rfl,hbl,hrg⟩:=HV.out.range (k:=4) (fun x _=>encRc_len x) (by omega) k g1
   have HRG:=hid (rangeAt_below hrg HB.out)
   have HQ:=hid (HP.out _ (List.getElem_mem g1))
   clear hrg
   obtain ⟨q,hq⟩:∃ q,l[k]=q:=⟨_,rfl⟩
   rw [hq] at HRG HQ
   clear hq
   obtain ⟨q0,q1,q2,q3⟩:=q
   have HPR:RowKit.Hid (∀ W,Calls Tryz.prog 101 #[.agg #[.int .i64 q0,.int .i64 q1,.int .i64 q2,.int .i64 q3]] W fun e w'=>e=.returned (.bool true)∧Below W.heap.size W w'):=fun W=>by
    have:=rproper_any (q0,q1,q2,q3) W
    rwa [decide_eq_true (show Prp (q0,q1,q2,q3) from by have:=HQ.out;unfold InSide at this;unfold Prp;omega)] at this
   dsimp only [encRc] at HRG
   go_wp2_with (first
    | (refine wpList_load_mid rfl 87 (.tmp 14) rfl b (off+k * 4) rfl [.int .i64 q0,.int .i64 q1,.int .i64 q2,.int .i64 q3] _ HRG.out Tryz.underlying87 rfl rcInfo4 ?_)
    | (refine st_new rfl 87 (.tmp 5) (.tmp 15) rfl #[.int .i64 q0,.int .i64 q1,.int .i64 q2,.int .i64 q3] _ _ rfl rfl rcInfo4 rfl (rc_one (q0,q1,q2,q3)) ?_)
    | (refine wpList_load_row rfl 87 (.tmp 5) rfl wr.heap.size rfl _ #[.int .i64 q0,.int .i64 q1,.int .i64 q2,.int .i64 q3] _ _ (Blk.new _ _ _) Tryz.underlying87 rfl rcInfo4 ?_)
    | (go_at_call 101;refine (HPR.out _).mono ?_;rintro e w1 ⟨rfl,hb1⟩))
   go_roundw
   case rel=>exact ⟨k+1,by omega,by go_num,btr (by (repeat (with_reducible first | exact HB.out | exact Below.refl _ _ | refine bdr ?_ | refine bdn ?_ _ | refine bal ?_ _))) hb1⟩
   case measure=>simp [intOf];omega
  ·have HC:RowKit.Hid (∀ W',Below W.heap.size W W'→Calls Tryz.prog 62 #[.slice a n c,.slice none 0 0,.int .i64 1] W' (NewCan W' (inRc l))):=fun W' hW' =>
    combine_or_nil a n c l W' ⟨HV.out.below hW',HN.out,by dsimp only;omega⟩
   have HBD:RowKit.Hid (Board (inRc l)):=fun x y k=>inSide_board HP.out x y k
   go_wp2_with (first
    | (go_at_call 62;refine (HC.out _ HB.out).mono ?_;rintro e w3 hn;obtain ⟨a3,n3,c3,l3,rfl,s3,i3,hb3,hf3,q3⟩:=hn.toB HBD.out;have S3:=hid s3;have I3:=hid i3;have HB3:=hid (btr HB.out hb3);have F3:=hid hf3;clear hn s3 i3 hf3)
    | (go_at_call 64;refine (bound_any a3 n3 c3 _ q3).mono ?_;rintro e w4 ⟨rfl,hb4⟩;have HB4:=hid hb4;clear hb4)
    | (refine wpList_store_row rfl 38 (.tmp 2) (.tmp 24) rfl w.heap.size #[.slice a3 n3 c3] rfl rfl _ _ (B1.out.below (btr HB3.out HB4.out)) rgInfo rfl (rg_one _ _ _) ?_))
   have BR:=setRow_heap w4 w.heap.size _ #[.slice a3 n3 c3] _ _ (B1.out.below (btr HB3.out HB4.out))
   have y3:=B1.out.lt
   have z3:=HB.out.size
   refine bodyPost_ret (v:=.tuple #[.agg #[.slice a3 n3 c3],.int .i64 0]) (by simp [results,Tryz.results68,go_sem,Blk.cell BR]) rfl ⟨a3,n3,c3,l3,rfl,?_,I3.out,below_setRow (btr BB.out (btr HB3.out HB4.out)) (by omega) _,fun b off e=>by have:=F3.out b off e;have:=BB.out.size;omega⟩
   exact ok_setRow (S3.out.below HB4.out) fun b off e=>by have:=F3.out b off e;omega
def KReg (b:Nat) (side:Int) (w:World) (e:Ending) (w':World):Prop:=∃ s:Sc Rc,e=.returned (.agg #[.slice s.a s.n s.c])∧ScOk2 (hole b w') s∧IsCan (inRc s.l) s.l∧(∀ x y,inRc s.l x y→0≤x∧x<side∧0≤y∧y<side)∧(∀ g off,s.a=some ⟨g,off,none⟩→w.heap.size≤g)∧Steps1 b w w'
theorem kregion_any (b:Nat) (side most:Int) (w:World) (hT:Tape w b) (h1:1≤side) (h2:side≤10) (h3:0≤most) (h4:most≤100) :
  Calls Tryz.prog 31 #[.pointer (some ⟨b,0,none⟩),.int .i64 side,.int .i64 most] w (KReg b side w):=by
 have hlt:=hT.lt
 obtain ⟨W,hW⟩:∃ W,w.alloc (.cells #[.slice none 0 0] 38)=W:=⟨_,rfl⟩
 have T0:RowKit.Hid (Tape W b):=by show Tape _ _;rw [← hW];exact hT.alloc _
 have B0:RowKit.Hid (Blk W w.heap.size 38 #[.slice none 0 0]):=by show Blk _ _ _ _;rw [← hW];exact Blk.new w _ _
 have S0:RowKit.Hid (Steps1 b w W):=by show Steps1 _ _ _;rw [← hW];exact sal (Steps1.refl hT) _
 clear hT
 go_enter Tryz.func31,Tryz.ntmps31
 go_wp2_with (go_at_call 16;refine (next_any _ _ _ T0.out (by omega) (by omega)).mono ?_;rintro e w1 ⟨r1,p1,q1,rfl,hs1⟩;have T1:=hid hs1.now;have S1:=hid (sts S0.out hs1);have B1:=hid (B0.out.step hs1 (by omega));clear hs1)
 go_loopw [7,8] (fun v i wr=>∃ (m:Nat) (l:List Rc),i=.int .i64 m∧l.length+m≤100∧wr.ownsRow w1.heap.size 87 4 v l.length (rcCells l)∧(∀ q ∈ l,InSide side q)∧Steps1 b w1 wr) (fun _ i _=>(intOf i).toNat)
 case atStart=>exact ⟨r1.toNat,[],by rw [Int.toNat_of_nonneg p1],by simp;omega,World.ownsRow_nil _ _ _ _,(fun q hq=>by cases hq),Steps1.refl T1.out⟩
 case round =>
  obtain ⟨m,l,rfl,hm,hown,hl,hs⟩:=hrel
  have HOWN:=hid hown;have HL:=hid hl;have HS:=hid hs
  obtain ⟨av,cv,rfl,hcap,-,-⟩:=own_form hown
  clear hown hl hs
  by_cases hgt:0<m
  ·go_wp2_with (first
    | (go_at_call 67;refine (krect_any _ _ _ HS.out.now h1 (by omega)).mono ?_;rintro e w2 ⟨q,rfl,hq,hs2⟩;have HQ:=hid hq;have HS2:=hid (sts HS.out hs2);have OW2:=hid (own_step HOWN.out hs2 HS.out.lt);clear hq hs2)
    | (refine bs_one elRc (by decide) rfl (.tmp 22) rfl (encRc q).toArray rfl rfl ?_)
    | (at_builtin;refine app_list elRc rfl _ _ rfl w1.heap.size _ l.length _ rfl (own_keep OW2.out Bw.out) _ 1 _ (encRc q) rfl (by first | exact vw_blk (Blk.fresh (by simp)) | exact vw_blk (Blk.fresh (by simp)).drew) (by simp) rfl (oneC_rc _) (by omega) (by have:=HS2.out.size;simp;omega) ?_;intro v3 w3 hown3 hg3 _))
   go_roundw
   case rel =>
    refine ⟨m - 1,l++[q],by go_num,by simp;omega,?_,fun t ht=>?_,steps_app (sal HS2.out _) (own_keep OW2.out Bw.out) hg3⟩
    ·rw [rcCells_snoc,List.length_append];exact hown3
    ·rcases List.mem_append.1 ht with ht | ht
     ·exact HL.out t ht
     ·rw [List.mem_singleton.1 ht];exact HQ.out
   case measure=>simp [intOf];omega
  ·have hm0:m=0:=by omega
   subst hm0
   have HOF:RowKit.Hid (Calls Tryz.prog 68 #[.slice av l.length cv] wr (RegP wr (inRc l))) :=
    of_any av l.length cv l wr (vw_of_own HOWN.out) rfl (by omega) fun q hq=>by have:=HL.out q hq;unfold InSide at this ⊢;omega
   have BR0:=hid (B1.out.step HS.out (by omega))
   go_wp2_with (first
    | (go_at_call 68;refine HOF.out.mono ?_;rintro e w2 ⟨a2,n2,c2,l2,rfl,s2,i2,hb2,hf2⟩;have S2:=hid s2;have I2:=hid i2;have HB2:=hid hb2;have F2:=hid hf2;clear s2 i2 hb2 hf2)
    | (refine st_new rfl 38 (.tmp 9) (.tmp 28) rfl #[.slice a2 n2 c2] _ _ rfl rfl rgInfo rfl (rg_one _ _ _) ?_)
    | (refine wpList_load_row rfl 38 (.tmp 9) rfl w2.heap.size rfl _ #[.slice a2 n2 c2] _ _ (Blk.new _ _ _) Tryz.underlying38 rfl rgInfo ?_)
    | (refine wpList_store_row rfl 38 (.tmp 6) (.tmp 30) rfl w.heap.size #[.slice a2 n2 c2] rfl rfl _ _ ((BR0.out.below HB2.out).alloc _) rgInfo rfl (rg_one _ _ _) ?_))
   have BR:=setRow_heap (w2.alloc (.cells #[.slice a2 n2 c2] 38)) w.heap.size _ #[.slice a2 n2 c2] _ _ ((BR0.out.below HB2.out).alloc _)
   refine bodyPost_ret (results_cell_row rfl _ _ _ _ _ _ _ rfl BR Tryz.underlying38 rfl rgInfo) rfl ?_
   have y1:=S1.out.size
   have y2:=HS.out.size
   have y0:=B0.out.lt
   have hst:Steps1 b w ((w2.alloc (.cells #[.slice a2 n2 c2] 38)).setRow w.heap.size #[.slice a2 n2 c2]):=steps_setRow (stb (sts S1.out HS.out) (bal HB2.out _)) (Nat.le_refl _) _
   have hok:ScOk2 ((w2.alloc (.cells #[.slice a2 n2 c2] 38)).setRow w.heap.size #[.slice a2 n2 c2]) ⟨a2,n2,c2,l2⟩:=ok_setRow (S2.out.below (bal (Below.refl _ _) _)) fun g off e=>by have:=F2.out g off e;have:=BR0.out.lt;omega
   refine ⟨⟨a2,n2,c2,l2⟩,rfl,hok.holed fun g off e=>by have:=F2.out g off e;have:=HS.out.lt;omega,I2.out.self,fun x y k=>?_,fun g off e=>by have:=F2.out g off e;omega,hst⟩
   exact inSide_board HL.out x y ((I2.out.iff x y).1 k)
theorem ftInfo:(Tryz.prog.info? 49).map (·.size)=some 5:=by kernel_rfl
theorem infoFt:(Tryz.prog.info? 49).map (fun i=>(i.zero,i.size,i.bytes))=some (some (.agg #[.int .i64 0,.int .i64 0,.int .i64 0,.int .i64 0,.slice none 0 0]),5,56):=by kernel_rfl
theorem elFt:ElT Tryz.prog 34 49 5 56:=.mk' Tryz.underlying34 infoFt rfl (by decide) (by decide)
theorem ft_one (a b c d:Int) (s:Option Addr) (n k:Nat):(#[.int .i64 a,.int .i64 b,.int .i64 c,.int .i64 d,.slice s n k]:Array Value).all (·.oneCell')=true:=by
 rw [List.all_toArray];rfl
theorem oneC_ft (f:FtrM):OneC (encFtr f):=fun u hu=>by simp [encFtr] at hu;rcases hu with rfl | rfl | rfl | rfl | rfl <;> rfl
structure FGood (f:Ftr):Prop where
 number:1≤f.number∧f.number≤1073741824
 days:0≤f.since∧f.since<f.till∧f.till≤36865
 some:f.rects ≠ []
 valid:Vld f.rects
def kindOk (k:Int):Bool:=decide (0≤k∧k≤15)
theorem fone_any (f:FtrM) (w:World) (hs:ScOk2 w f.s) (hg:FGood f.pl) :
  Calls Tryz.prog 88 #[.agg #[.int .i64 f.number,.int .i64 f.kind,.int .i64 f.since,.int .i64 f.till,.slice f.s.a f.s.n f.s.c]] w fun e w'=>e=.returned (.int .i64 (if kindOk f.kind then 0 else 14))∧Below w.heap.size w w':=by
 obtain ⟨nu,ki,si,ti,a,n,c,l⟩:=f
 obtain ⟨⟨n1,n2⟩,⟨d1,d2,d3⟩,hne,hv⟩:=hg
 dsimp only [FtrM.pl] at n1 n2 d1 d2 d3 hne hv
 dsimp only at hs ⊢
 have hn0:0<n:=by have:=List.length_pos_iff.2 hne;have:=hs.1.2.1;dsimp only at this;omega
 have b0:((n:Int) == 0)=false:=by simp;omega
 obtain ⟨W,hW⟩:∃ W,w.alloc (.cells #[.int .i64 nu,.int .i64 ki,.int .i64 si,.int .i64 ti,.slice a n c] 49)=W:=⟨_,rfl⟩
 have B1:RowKit.Hid (Blk W w.heap.size 49 #[.int .i64 nu,.int .i64 ki,.int .i64 si,.int .i64 ti,.slice a n c]):=by show Blk _ _ _ _;rw [← hW];exact Blk.new w _ _
 have BB:RowKit.Hid (Below w.heap.size w W):=by show Below _ _ _;rw [← hW];exact Bw.out
 have m1:n≤100000:=hs.1.2.2
 have HV:=hid (rvalid_any a n c l W (hs.1.1.below BB.out) hs.1.2.1 (by omega))
 have V:=hid hv
 have c0:W.cell? ⟨w.heap.size,0,none⟩=some (.int .i64 nu):=B1.out.cell 0
 have c1:W.cell? ⟨w.heap.size,1,none⟩=some (.int .i64 ki):=B1.out.cell 1
 have c2:W.cell? ⟨w.heap.size,2,none⟩=some (.int .i64 si):=B1.out.cell 2
 have c3:W.cell? ⟨w.heap.size,3,none⟩=some (.int .i64 ti):=B1.out.cell 3
 have c4:W.cell? ⟨w.heap.size,4,none⟩=some (.slice a n c):=B1.out.cell 4
 clear hs hne hv
 unfold kindOk
 by_cases k1:ki<0
 ·rw [decide_eq_false (by omega)]
  go_enter Tryz.func88,Tryz.ntmps88
  go_wp2
  go_ret
  exact ⟨rfl,BB.out⟩
 ·by_cases k2:15<ki
  ·rw [decide_eq_false (by omega)]
   go_enter Tryz.func88,Tryz.ntmps88
   go_wp2
   go_ret
   exact ⟨rfl,BB.out⟩
  ·rw [decide_eq_true (by omega)]
   go_enter Tryz.func88,Tryz.ntmps88
   go_wp2_with (go_at_call 59;refine HV.out.mono ?_;rintro e w1 ⟨b1,rfl,hi,hb1⟩;obtain rfl:b1=true:=hi.2 V.out;clear hi;have y4:=bc1 hb1 c4;have HB1:=hid hb1;clear hb1)
   go_ret
   exact ⟨rfl,btr BB.out HB1.out⟩
structure LGood (l:List Ftr):Prop where
 len:l.length≤60
 good:∀ f ∈ l,FGood f
 pair:l.Pairwise fun a b=>a.number<b.number
def LChk (l:List Ftr) (x:Int):Prop:=((∀ f ∈ l,kindOk f.kind=true)→x=0)∧((∃ f ∈ l,kindOk f.kind=false)→x=14)
theorem fcheck_any (s:Sc FtrM) (w:World) (hR:Rws encFtr w s 60) (hr:∀ r ∈ s.l,ScOk2 w r.s) (hg:LGood (s.l.map FtrM.pl)) :
  Calls Tryz.prog 58 #[.slice s.a s.n s.c] w fun e w'=>∃ x,e=.returned (.int .i64 x)∧LChk (s.l.map FtrM.pl) x∧Below w.heap.size w w':=by
 obtain ⟨a,n,c,l⟩:=s
 dsimp only at hr hg ⊢
 have HR:=hid hR;have HS:=hid hr;have HG:=hid hg
 have hn:l.length=n:=hR.len
 have HN:=hid hn
 have hm:n≤60:=hR.few
 have h60:¬ (60:Int)<(n:Int):=by omega
 clear hR hr hg hn
 go_enter Tryz.func58,Tryz.ntmps58
 go_wp2
 go_loopw [11] (fun i wr=>∃ k:Nat,k≤n∧i=.int .i64 k∧(∀ j (h:j<l.length),j<k→kindOk l[j].kind=true)∧Below w.heap.size w wr) (fun i _=>n - (intOf i).toNat)
 case atStart=>exact ⟨0,Nat.zero_le _,rfl,(fun j _ h=>absurd h (Nat.not_lt_zero j)),Below.refl _ _⟩
 case round =>
  obtain ⟨k,hk,rfl,hno,hb⟩:=hrel
  have NO:=hid hno;have HB:=hid hb
  clear hno hb
  by_cases hlt:k<n
  ·have hke:k<l.length:=by rw [HN.out];exact hlt
   obtain ⟨b,off,rfl,hbl,hrg⟩:=HR.out.vw.range (k:=5) (fun x _=>encFtr_len x) (by omega) k hke
   have HRG:=hid (rangeAt_below hrg HB.out)
   have HFO:=hid fun W (hW:Below w.heap.size w W)=>fone_any l[k] W ((HS.out _ (List.getElem_mem hke)).below hW) (HG.out.good _ (List.mem_map.2 ⟨_,List.getElem_mem hke,rfl⟩))
   obtain ⟨kd,hkd⟩:∃ kd,kindOk l[k].kind=kd:=⟨_,rfl⟩
   rw [hkd] at HFO
   have HKD:=hid hkd
   clear hrg hkd
   have HPV:RowKit.Hid (∀ m,k=m+1→∃ hm:m<l.length,wr.cell? ⟨b,off+m * 5,none⟩=some (.int .i64 l[m].number)∧l[m].number<l[k].number):=fun m hm=>by
    subst hm
    have hml:m<l.length:=by omega
    obtain ⟨b',off',e,_,hrg'⟩:=HR.out.vw.range (k:=5) (fun x _=>encFtr_len x) (by omega) m hml
    cases e
    refine ⟨hml,(rangeAt_below hrg' HB.out) 0 _ rfl,?_⟩
    have:=List.pairwise_iff_getElem.1 HG.out.pair m (m+1) (by simpa using hml) (by simpa using hke) (by omega)
    simp only [List.getElem_map] at this
    exact this
   obtain ⟨f,hf⟩:∃ f,l[k]=f:=⟨_,rfl⟩
   rw [hf] at HRG HFO HPV
   clear hf
   obtain ⟨nu,ki,si,ti,fa,fn,fc,fl⟩:=f
   dsimp only [encFtr] at HRG HFO HPV
   obtain ⟨W1,hW1⟩:∃ W1,wr.alloc (.cells #[.int .i64 nu,.int .i64 ki,.int .i64 si,.int .i64 ti,.slice fa fn fc] 49)=W1:=⟨_,rfl⟩
   have BX:RowKit.Hid (Blk W1 wr.heap.size 49 #[.int .i64 nu,.int .i64 ki,.int .i64 si,.int .i64 ti,.slice fa fn fc]):=by show Blk _ _ _ _;rw [← hW1];exact Blk.new _ _ _
   have BW:RowKit.Hid (Below wr.heap.size wr W1):=by show Below _ _ _;rw [← hW1];exact Bw.out
   cases kd with
   | false =>
    go_wp2_with (first
     | (refine wpList_load_mid rfl 49 (.tmp 14) rfl b (off+k * 5) rfl [.int .i64 nu,.int .i64 ki,.int .i64 si,.int .i64 ti,.slice fa fn fc] _ HRG.out Tryz.underlying49 rfl ftInfo ?_)
     | (refine st_new rfl 49 (.tmp 4) (.tmp 15) rfl #[.int .i64 nu,.int .i64 ki,.int .i64 si,.int .i64 ti,.slice fa fn fc] _ _ rfl rfl ftInfo rfl (ft_one _ _ _ _ _ _ _) ?_;rw [hW1])
     | (refine wpList_load_row rfl 49 (.tmp 4) rfl wr.heap.size rfl _ #[.int .i64 nu,.int .i64 ki,.int .i64 si,.int .i64 ti,.slice fa fn fc] _ _ BX.out Tryz.underlying49 rfl ftInfo ?_)
     | (go_at_call 88;refine (HFO.out _ (btr HB.out BW.out)).mono ?_;rintro e w1 ⟨rfl,hb1⟩))
    go_ret
    refine ⟨14,rfl,⟨fun h=>?_,fun _=>rfl⟩,btr (btr HB.out BW.out) hb1⟩
    have:=h _ (List.mem_map.2 ⟨_,List.getElem_mem hke,rfl⟩)
    rw [show (FtrM.pl l[k]).kind=l[k].kind from rfl] at this
    exact absurd (HKD.out) (by rw [this];decide)
   | true =>
    cases k with
    | zero =>
     go_wp2_with (first
      | (refine wpList_load_mid rfl 49 (.tmp 14) rfl b (off+0 * 5) rfl [.int .i64 nu,.int .i64 ki,.int .i64 si,.int .i64 ti,.slice fa fn fc] _ HRG.out Tryz.underlying49 rfl ftInfo ?_)
      | (refine st_new rfl 49 (.tmp 4) (.tmp 15) rfl #[.int .i64 nu,.int .i64 ki,.int .i64 si,.int .i64 ti,.slice fa fn fc] _ _ rfl rfl ftInfo rfl (ft_one _ _ _ _ _ _ _) ?_;rw [hW1])
      | (refine wpList_load_row rfl 49 (.tmp 4) rfl wr.heap.size rfl _ #[.int .i64 nu,.int .i64 ki,.int .i64 si,.int .i64 ti,.slice fa fn fc] _ _ BX.out Tryz.underlying49 rfl ftInfo ?_)
      | (go_at_call 88;refine (HFO.out _ (btr HB.out BW.out)).mono ?_;rintro e w1 ⟨rfl,hb1⟩))
     go_quiet (fail)
     go_wp2
     go_roundw
     case rel =>
      refine ⟨1,by omega,by go_num,fun j hj hjk=>?_,(by (repeat (with_reducible first | exact btr (btr HB.out BW.out) hb1 | exact Below.refl _ _ | refine bdr ?_ | refine bdn ?_ _ | refine bal ?_ _)))⟩
      obtain rfl:j=0:=by omega
      exact HKD.out
     case measure=>simp [intOf];omega
    | succ m =>
     obtain ⟨hml,p0,hlt2⟩:=HPV.out m rfl
     obtain ⟨pn,hpn⟩:∃ pn,l[m].number=pn:=⟨_,rfl⟩
     rw [hpn] at p0 hlt2
     clear hpn
     go_wp2_with (first
      | (refine wpList_load_mid rfl 49 (.tmp 14) rfl b (off+(m+1) * 5) rfl [.int .i64 nu,.int .i64 ki,.int .i64 si,.int .i64 ti,.slice fa fn fc] _ HRG.out Tryz.underlying49 rfl ftInfo ?_)
      | (refine st_new rfl 49 (.tmp 4) (.tmp 15) rfl #[.int .i64 nu,.int .i64 ki,.int .i64 si,.int .i64 ti,.slice fa fn fc] _ _ rfl rfl ftInfo rfl (ft_one _ _ _ _ _ _ _) ?_;rw [hW1])
      | (refine wpList_load_row rfl 49 (.tmp 4) rfl wr.heap.size rfl _ #[.int .i64 nu,.int .i64 ki,.int .i64 si,.int .i64 ti,.slice fa fn fc] _ _ BX.out Tryz.underlying49 rfl ftInfo ?_)
      | (go_at_call 88;refine (HFO.out _ (btr HB.out BW.out)).mono ?_;rintro e w1 ⟨rfl,hb1⟩;have q0:=bc1 (btr BW.out hb1) p0;have x0:w1.cell? ⟨wr.heap.size,0,none⟩=some (.int .i64 nu):=(BX.out.below hb1).cell 0))
     go_quiet (fail)
     go_wp2
     go_roundw
     case rel =>
      refine ⟨m+1+1,by omega,by go_num,fun j hj hjk=>?_,(by (repeat (with_reducible first | exact btr (btr HB.out BW.out) hb1 | exact Below.refl _ _ | refine bdr ?_ | refine bdn ?_ _ | refine bal ?_ _)))⟩
      by_cases e:j=m+1
      ·subst e;exact HKD.out
      ·exact NO.out j hj (by omega)
     case measure=>simp [intOf];omega
  ·go_wp2
   go_ret
   refine ⟨0,rfl,⟨fun _=>rfl,fun ⟨f,hf,h⟩=>?_⟩,HB.out⟩
   obtain ⟨g,hg,rfl⟩:=List.mem_map.1 hf
   obtain ⟨j,hj,rfl⟩:=List.getElem_of_mem hg
   have:=NO.out j hj (by have:=HN.out;omega)
   rw [show (FtrM.pl l[j]).kind=l[j].kind from rfl,this] at h
   cases h
end Go.Proofs.YtancajcelmhnkaaGreatDoor
