/- ref16.Eval: errors,lines. (Printed by gen4/r16.py.) -/
import Derived.Test.YtancajcelmhnkaaGreatDoorHn
import Derived.Test.YtancajcelmhnkaaGreatDoorRchk
set_option maxRecDepth 100000
set_option maxHeartbeats 4000000
namespace Go.Proofs.YtancajcelmhnkaaGreatDoor
open Go.RowKit Go.Sort Go.Shelf
set_option linter.unusedVariables false
set_option linter.unusedSimpArgs false
section
variable {p:PlM} {t:Tm}
theorem ev1 (h:chkT t ≠ 0):evErr p t=chkT t:=by unfold evErr;rw [if_pos h]
theorem ev2 (h1:chkT t=0) (h:∃ c ∈ p.cr.l,mkB c=false):evErr p t=14:=by unfold evErr;rw [if_neg (fun k=>k h1),if_pos h]
theorem ev3 (h1:chkT t=0) (h2:¬ ∃ c ∈ p.cr.l,mkB c=false) (h:wrongB p.crop p.cr.n=true∨∃ r ∈ p.hi.l,wrongB r.crop p.cr.n=true):evErr p t=13:=by unfold evErr;rw [if_neg (fun k=>k h1),if_neg h2,if_pos h]
theorem ev4 (h1:chkT t=0) (h2:¬ ∃ c ∈ p.cr.l,mkB c=false) (h3:¬ (wrongB p.crop p.cr.n=true∨∃ r ∈ p.hi.l,wrongB r.crop p.cr.n=true)) (h:¬ HSort (p.hi.l.map RcdM.pl)):evErr p t=3:=by unfold evErr;rw [if_neg (fun k=>k h1),if_neg h2,if_neg h3,if_pos h]
theorem ev5 (h1:chkT t=0) (h2:¬ ∃ c ∈ p.cr.l,mkB c=false) (h3:¬ (wrongB p.crop p.cr.n=true∨∃ r ∈ p.hi.l,wrongB r.crop p.cr.n=true)) (h4:HSort (p.hi.l.map RcdM.pl)) (h:p.year<0∨100<p.year):evErr p t=18:=by unfold evErr;rw [if_neg (fun k=>k h1),if_neg h2,if_neg h3,if_neg (fun k=>k h4),if_pos h]
theorem ev6 (h1:chkT t=0) (h2:¬ ∃ c ∈ p.cr.l,mkB c=false) (h3:¬ (wrongB p.crop p.cr.n=true∨∃ r ∈ p.hi.l,wrongB r.crop p.cr.n=true)) (h4:HSort (p.hi.l.map RcdM.pl)) (h5:¬ (p.year<0∨100<p.year)) (h:∃ f ∈ p.zo.l.map FtrM.pl,kindOk f.kind=false):evErr p t=14:=by unfold evErr;rw [if_neg (fun k=>k h1),if_neg h2,if_neg h3,if_neg (fun k=>k h4),if_neg h5,if_pos h]
theorem ev7 (h1:chkT t=0) (h2:¬ ∃ c ∈ p.cr.l,mkB c=false) (h3:¬ (wrongB p.crop p.cr.n=true∨∃ r ∈ p.hi.l,wrongB r.crop p.cr.n=true)) (h4:HSort (p.hi.l.map RcdM.pl)) (h5:¬ (p.year<0∨100<p.year)) (h6:¬ ∃ f ∈ p.zo.l.map FtrM.pl,kindOk f.kind=false) (h:¬ (0≤p.day∧p.day≤36864)):evErr p t=9:=by unfold evErr;rw [if_neg (fun k=>k h1),if_neg h2,if_neg h3,if_neg (fun k=>k h4),if_neg h5,if_neg h6,if_pos h]
theorem ev8 (h1:chkT t=0) (h2:¬ ∃ c ∈ p.cr.l,mkB c=false) (h3:¬ (wrongB p.crop p.cr.n=true∨∃ r ∈ p.hi.l,wrongB r.crop p.cr.n=true)) (h4:HSort (p.hi.l.map RcdM.pl)) (h5:¬ (p.year<0∨100<p.year)) (h6:¬ ∃ f ∈ p.zo.l.map FtrM.pl,kindOk f.kind=false) (h7:0≤p.day∧p.day≤36864) (h:¬ Vld p.rc.l):evErr p t=7:=by unfold evErr;rw [if_neg (fun k=>k h1),if_neg h2,if_neg h3,if_neg (fun k=>k h4),if_neg h5,if_neg h6,if_neg (fun k=>k h7),if_pos h]
theorem ev9 (h1:chkT t=0) (h2:¬ ∃ c ∈ p.cr.l,mkB c=false) (h3:¬ (wrongB p.crop p.cr.n=true∨∃ r ∈ p.hi.l,wrongB r.crop p.cr.n=true)) (h4:HSort (p.hi.l.map RcdM.pl)) (h5:¬ (p.year<0∨100<p.year)) (h6:¬ ∃ f ∈ p.zo.l.map FtrM.pl,kindOk f.kind=false) (h7:0≤p.day∧p.day≤36864) (h:Vld p.rc.l):evErr p t=0:=by unfold evErr;rw [if_neg (fun k=>k h1),if_neg h2,if_neg h3,if_neg (fun k=>k h4),if_neg h5,if_neg h6,if_neg (fun k=>k h7),if_neg (fun k=>k h)]
end
structure PlR (w:World) (p:PlM):Prop where
 g:PlG w p
 cat:Cat p.cr.l
 cap:p.hi.n≤p.hi.c∧p.hi.c≤maxLen
 hcb:∀ r ∈ p.hi.l,IsCan (inRc r.s.l) r.s.l∧Board (inRc r.s.l)
 zcb:∀ r ∈ p.zo.l,IsCan (inRc r.s.l) r.s.l∧Board (inRc r.s.l)
 rb:Vld p.rc.l→Board (inRc p.rc.l)
theorem lchk_if {l:List Ftr} {x:Int} (h:LChk l x):(x ≠ 0↔∃ f ∈ l,kindOk f.kind=false)∧(x ≠ 0→x=14):=by
 by_cases k:∃ c ∈ l,kindOk c.kind=false
 ·have:=h.2 k
  exact ⟨⟨fun _=>k,fun _=>by rw [this];decide⟩,fun _=>this⟩
 ·have:=h.1 fun c hc=>by
   cases e:kindOk c.kind with
   | true=>rfl
   | false=>exact absurd ⟨c,hc,e⟩ k
  exact ⟨⟨fun c=>absurd this c,fun c=>absurd c k⟩,fun c=>absurd this c⟩
theorem PlR.below {w w':World} {p:PlM} (h:PlR w p) (hb:Below w.heap.size w w'):PlR w' p:=⟨h.g.below hb,h.cat,h.cap,h.hcb,h.zcb,h.rb⟩
theorem PlR.plb {w:World} {p:PlM} (h:PlR w p) {t:Tm} (h0:evErr p t=0) (h2:¬ ∃ c ∈ p.cr.l,mkB c=false):PlB w p :=
 have hv:=(evErr_zero h0).2.2.2.2.2
 ⟨h.g.ok h0 (h.rb hv),h.rb hv,h.hcb,h.zcb,fun c hc=>by
  cases e:mkB c with
  | true=>rfl
  | false=>exact absurd ⟨c,hc,e⟩ h2⟩
structure RvE (w:World) (tb:Array Value) (ln:Array Value) (X:World):Prop where
 tm:Blk X w.heap.size 24 tb
 li:Blk X (w.heap.size+1) 42 ln
 re:Blk X (w.heap.size+1+1) 55 #[.slice none 0 0,.slice none 0 0,.slice none 0 0]
 bl:Below w.heap.size w X
theorem RvE.beh {w:World} {tb ln:Array Value} {X X':World} (h:RvE w tb ln X) (hb:Below X.heap.size X X'):RvE w tb ln X':=⟨h.tm.below hb,h.li.below hb,h.re.below hb,btr h.bl hb⟩
theorem rvE_err {w X:World} {tb ln:Array Value} {p:PlM} {t:Tm} {e:Int} (h:RvE w tb ln X) (he:evErr p t=e) (h0:e ≠ 0):EvP w p t (.returned (.tuple #[.agg #[.slice none 0 0,.slice none 0 0,.slice none 0 0],.int .i64 e])) (X.setRow (w.heap.size+1+1) #[.slice none 0 0,.slice none 0 0,.slice none 0 0]) :=
 .inl ⟨by rw [he];exact h0,by rw [he],below_setRow h.bl (by omega) _⟩
def InTen (q:Rc):Prop:=0≤q.1∧q.2.2.1≤10∧0≤q.2.1∧q.2.2.2≤10
theorem brk_board {l:List Rc} (h:∀ q ∈ l,Prp q→InTen q):Vld l→Board (inRc l):=fun hv x y ⟨q,hq,k⟩=>by
 have:=h q hq (hv.2.1 q hq)
 unfold InTen at this
 omega
theorem in_nine {l:List Rc} (hc:IsCan (inRc l) l) (hd:∀ x y,inRc l x y→0≤x∧x<9∧0≤y∧y<9):∀ q ∈ l,0≤q.1∧q.1<q.2.2.1∧q.2.2.1≤9∧0≤q.2.1∧q.2.1<q.2.2.2∧q.2.2.2≤9:=fun q hq=>by
 obtain ⟨p1,p2⟩:=isCan_pos hc q hq
 have a1:=hd q.1 q.2.1 ⟨q,hq,by omega,by omega,by omega,by omega⟩
 have a2:=hd (q.2.2.1 - 1) (q.2.2.2 - 1) ⟨q,hq,by omega,by omega,by omega,by omega⟩
 omega
theorem cells_set {α:Type} {enc:α→List Value} {k:Nat} (hk:∀ x,(enc x).length=k):∀ (l:List α) (i j:Nat) (x:α) (v:Value) (hi:i<l.length),j<k→enc x=(enc l[i]).set j v→(cellsOf enc l).set (i * k+j) v=cellsOf enc (l.set i x)
 | y :: l,0,j,x,v,_,hj,h=>by
  have e:cellsOf enc (y :: l)=enc y++cellsOf enc l:=by simp [cellsOf]
  have e2:cellsOf enc (x :: l)=enc x++cellsOf enc l:=by simp [cellsOf]
  rw [e,List.set_cons_zero,e2,h,Nat.zero_mul,Nat.zero_add,List.set_append_left _ _ (by rw [hk];exact hj)]
  rfl
 | y :: l,i+1,j,x,v,hi,hj,h=>by
  have e:cellsOf enc (y :: l)=enc y++cellsOf enc l:=by simp [cellsOf]
  have e2:cellsOf enc (y :: l.set i x)=enc y++cellsOf enc (l.set i x):=by simp [cellsOf]
  rw [e,List.set_append_right _ _ (by rw [hk,Nat.add_mul];omega),hk,List.set_cons_succ,e2,show (i+1) * k+j - k=i * k+j by rw [Nat.add_mul];omega,cells_set hk l i j x v (by simpa using hi) hj h]
theorem set_all {l:List Rc} {k:Nat} {q:Rc} {P:Rc→Prop} (h:∀ t ∈ l,P t) (hq:P q):∀ t ∈ l.set k q,P t:=fun t ht=>by
 rcases List.mem_or_eq_of_mem_set ht with ht | rfl
 ·exact h t ht
 ·exact hq
theorem brk_nil {w w':World} {s:Sc Rc} (h:ScOk2 w s) (hl:s.l=[]):ScOk2 w' s:=⟨⟨fun i v hi=>by rw [hl] at hi;simp [rcCells,cellsOf] at hi,h.1.2⟩,h.2.1,fun k=>absurd hl k⟩
def KBr (b:Nat) (w:World) (e:Ending) (w':World):Prop:=∃ s:Sc Rc,e=.returned (.agg #[.slice s.a s.n s.c])∧ScOk2 (hole b w') s∧(Vld s.l→Board (inRc s.l))∧(∀ g off,s.a=some ⟨g,off,none⟩→w.heap.size≤g)∧Steps1 b w w'
theorem kbr_fin {b:Nat} {w w5:World} {a:Option Addr} {n c base:Nat} {l:List Rc} (hs:Steps1 b w w5) (ho:w5.ownsRow base 87 4 (.slice a n c) n (rcCells l)) (hb:w.heap.size<base) (hl:l.length=n) (hn:n≤1000) (hbw:b<w.heap.size) (hv:∀ q ∈ l,Prp q→InTen q) :
  KBr b w (.returned (.agg #[.slice a n c])) (w5.setRow w.heap.size #[.slice a n c]):=by
 have hg:∀ g off,a=some ⟨g,off,none⟩→base≤g:=fun g off e=>by
  obtain ⟨a',c',e1,-,-,h⟩:=own_form ho
  cases e1
  rcases h with ⟨h,_⟩ | ⟨g',h,hg',_⟩
  ·rw [h] at e;cases e
  ·rw [h] at e;cases e;exact hg'
 have ok:ScOk2 w5 ⟨a,n,c,l⟩:=⟨⟨vw_of_own ho,hl,by show n≤100000;omega⟩,own_nil ho,tyS_own ho (fun h=>by rw [← hl];exact List.length_pos_iff.2 h) (by decide)⟩
 exact ⟨⟨a,n,c,l⟩,rfl,(ok_setRow ok fun g off e=>by have:=hg g off e;omega).holed fun g off e=>by have:=hg g off e;omega,brk_board hv,fun g off e=>by have:=hg g off e;omega,steps_setRow hs (Nat.le_refl _) _⟩
theorem steps_own {b:Nat} {w w1 w2:World} {base size n c g:Nat} {t:TypeId} {xs:List Value} (hs:Steps1 b w w1) (ho:w1.ownsRow base t size (.slice (some ⟨g,0,none⟩) n c) n xs) (hb:w.heap.size≤base) (hg:w1.grownBy w2 (some g)):Steps1 b w w2 :=
 steps_app hs (own_base ho hb) (by simpa [Value.ownBlock] using hg)
theorem own_rc {w:World} {base g n c:Nat} {l:List Rc} (h:w.ownsRow base 87 4 (.slice (some ⟨g,0,none⟩) n c) n (rcCells l)) {k:Nat} (hk:k<l.length) :
  (w.cell? ⟨g,k * 4,none⟩=some (.int .i64 l[k].1)∧w.cell? ⟨g,k * 4+1,none⟩=some (.int .i64 l[k].2.1)∧w.cell? ⟨g,k * 4+2,none⟩=some (.int .i64 l[k].2.2.1)∧w.cell? ⟨g,k * 4+3,none⟩=some (.int .i64 l[k].2.2.2)) ∧
  (w.frozen? ⟨g,k * 4,none⟩=false∧w.frozen? ⟨g,k * 4+1,none⟩=false∧w.frozen? ⟨g,k * 4+2,none⟩=false∧w.frozen? ⟨g,k * 4+3,none⟩=false)∧w.there g (k * 4) 4:=by
 obtain ⟨b,off,e,-,h0,h1,h2,h3⟩:=(vw_of_own h).rc k hk
 cases e
 rcases h.2 with ⟨h',_⟩ | ⟨g',cap',cur,hv,hb,hg,hn,hm,hc,ht⟩
 ·cases h'
 cases hv
 have hB:Blk w g 87 cur:=hg
 simp only [Nat.zero_add] at h0 h1 h2 h3
 exact ⟨⟨h0,h1,h2,h3⟩,⟨hB.free _,hB.free _,hB.free _,hB.free _⟩,fun j hj=>⟨by
  have hj4:j=0∨j=1∨j=2∨j=3:=by omega
  rcases hj4 with rfl | rfl | rfl | rfl
  ·rw [Nat.add_zero,h0];rfl
  ·rw [h1];rfl
  ·rw [h2];rfl
  ·rw [h3];rfl,hB.free _⟩⟩
theorem own_rng {w:World} {base g n c:Nat} {l:List Rc} (h:w.ownsRow base 87 4 (.slice (some ⟨g,0,none⟩) n c) n (rcCells l)) {k:Nat} (hk:k<l.length):w.rangeAt g (k * 4) (encRc l[k]):=by
 obtain ⟨b,off,e,-,hr⟩:=(vw_of_own h).range (k:=4) (fun x _=>encRc_len x) (by omega) k hk
 cases e
 simpa using hr
theorem rcInfo:(Tryz.prog.info? 87).map (·.size)=some 4:=by kernel_rfl
theorem swap8 {w:World} {base g n c k:Nat} {l:List Rc} (h:w.ownsRow base 87 4 (.slice (some ⟨g,0,none⟩) n c) n (rcCells l)) (x y:Rc) (hk:k<l.length) :
  ((((((((w.setCell ⟨g,0,none⟩ (.int .i64 x.1)).setCell ⟨g,1,none⟩ (.int .i64 x.2.1)).setCell ⟨g,2,none⟩ (.int .i64 x.2.2.1)).setCell ⟨g,3,none⟩ (.int .i64 x.2.2.2)).setCell ⟨g,k * 4,none⟩ (.int .i64 y.1)).setCell ⟨g,k * 4+1,none⟩ (.int .i64 y.2.1)).setCell ⟨g,k * 4+2,none⟩ (.int .i64 y.2.2.1)).setCell ⟨g,k * 4+3,none⟩ (.int .i64 y.2.2.2)).drew.ownsRow base 87 4 (.slice (some ⟨g,0,none⟩) n c) n (rcCells ((l.set 0 x).set k y))∧w.grownBy ((((((((w.setCell ⟨g,0,none⟩ (.int .i64 x.1)).setCell ⟨g,1,none⟩ (.int .i64 x.2.1)).setCell ⟨g,2,none⟩ (.int .i64 x.2.2.1)).setCell ⟨g,3,none⟩ (.int .i64 x.2.2.2)).setCell ⟨g,k * 4,none⟩ (.int .i64 y.1)).setCell ⟨g,k * 4+1,none⟩ (.int .i64 y.2.1)).setCell ⟨g,k * 4+2,none⟩ (.int .i64 y.2.2.1)).setCell ⟨g,k * 4+3,none⟩ (.int .i64 y.2.2.2)).drew (some g):=by
 obtain ⟨h1,g1⟩:=own_setCells (encRc x) 0 w _ h
 have e1:setL (rcCells l) 0 (encRc x)=rcCells (l.set 0 x):=by have:=setL_cells encRc_len l 0 x (by omega);rwa [Nat.zero_mul] at this
 rw [e1] at h1
 obtain ⟨h2,g2⟩:=own_setCells (encRc y) (k * 4) _ _ h1
 have e2:setL (rcCells (l.set 0 x)) (k * 4) (encRc y)=rcCells ((l.set 0 x).set k y):=setL_cells encRc_len _ k y (by rw [List.length_set];exact hk)
 rw [e2] at h2
 exact ⟨own_keep h2 (bdr (Below.refl _ _)),grown_trans (grown_trans g1 g2) (grown_of (bdr (Below.refl _ _)) _)⟩
theorem stored_steps {b:Nat} {w w1:World} {base size n c g:Nat} {t:TypeId} {xs:List Value} (hs:Steps1 b w w1) (ho:w1.ownsRow base t size (.slice (some ⟨g,0,none⟩) n c) n xs) (hb:w.heap.size≤base) (o:Nat) (v:Value):Steps1 b w (w1.setCell ⟨g,o,none⟩ v) :=
 steps_own hs ho hb (ho.stored o v).2
theorem kbroken_any (b:Nat) (w:World) (hT:Tape w b):Calls Tryz.prog 15 #[.pointer (some ⟨b,0,none⟩),.int .i64 9,.int .i64 3] w (KBr b w):=by
 have hlt:=hT.lt
 obtain ⟨W,hW⟩:∃ W,w.alloc (.cells #[.slice none 0 0] 38)=W:=⟨_,rfl⟩
 have B0:RowKit.Hid (Blk W w.heap.size 38 #[.slice none 0 0]):=by show Blk _ _ _ _;rw [← hW];exact Blk.new w _ _
 have S0:RowKit.Hid (Steps1 b w W):=by show Steps1 _ _ _;rw [← hW];exact sal (Steps1.refl hT) _
 have HRG:=hid (kregion_any b 9 3 W S0.out.now (by omega) (by omega) (by omega) (by omega))
 clear hT
 go_enter Tryz.func15,Tryz.ntmps15
 go_upto_region 2 with (first
  | (go_at_call 31;refine HRG.out.mono ?_;rintro e w1 ⟨⟨a1,n1,c1,l1⟩,rfl,s1,i1,d1,f1,hs1⟩;have OK1:=hid s1;have I1:=hid (in_nine i1 d1);have F1:=hid f1;have L1:=hid (can_120 i1 fun x y k=>by have:=d1 x y k;omega);have S1:=hid (sts S0.out hs1);have B1:=hid (B0.out.step hs1 (by omega));clear s1 i1 d1 f1 hs1)
  | (refine st_new rfl 38 (.tmp 7) (.tmp 13) rfl #[.slice a1 n1 c1] _ _ rfl rfl rgInfo rfl (rg_one _ _ _) ?_))
 obtain ⟨W1,hW1⟩:∃ W1,w1.alloc (.cells #[.slice a1 n1 c1] 38)=W1:=⟨_,rfl⟩
 obtain ⟨S1a,B1a,BN,OK1a,bn0⟩:=kl_next hW1 S1.out B1.out OK1.out
 rw [hW1]
 have z1:=B1.out.lt
 have z0:=B0.out.lt
 have HLN:RowKit.Hid (l1.length=n1):=OK1.out.1.2.1
 have YS1:=hid S1.out.size
 clear hW1 HRG
 by_cases hn0:n1=0
 case pos =>
  subst hn0
  go_wp2_with (first
   | (refine wpList_load_row rfl 38 (.tmp 7) rfl w1.heap.size rfl _ #[.slice a1 0 c1] _ _ BN.out Tryz.underlying38 rfl rgInfo ?_)
   | (refine wpList_store_row rfl 38 (.tmp 6) (.tmp 23) rfl w.heap.size #[.slice a1 0 c1] rfl rfl _ _ B1a.out rgInfo rfl (rg_one _ _ _) ?_))
  have BR:=setRow_heap W1 w.heap.size _ #[.slice a1 0 c1] _ _ B1a.out
  refine bodyPost_ret (results_cell_row rfl _ _ _ _ _ _ _ rfl BR Tryz.underlying38 rfl rgInfo) rfl ?_
  have hl:l1=[]:=List.eq_nil_of_length_eq_zero HLN.out
  subst hl
  exact ⟨⟨a1,0,c1,[]⟩,rfl,brk_nil OK1a.out rfl,(fun _ x y ⟨q,hq,_⟩=>by cases hq),(fun g off e=>by have:=F1.out g off e;omega),steps_setRow S1a.out (Nat.le_refl _) _⟩
 obtain ⟨m,rfl⟩:∃ m,n1=m+1:=⟨n1 - 1,by omega⟩
 have q0:(((m+1:Nat):Int) == 0)=false:=by simp;omega
 have NIN:=hid hn0
 have hml:m+1≤120:=by have:=L1.out;have:=HLN.out;omega
 clear hn0
 go_upto_region 5 with (first
  | (go_at_call 51;refine (one_any _ _ _ S1a.out.now (by omega) (by omega)).mono ?_;rintro e w2 ⟨v,rfl,hs2⟩;have S2:=hid (sts S1a.out hs2);have B2:=hid (B1a.out.step hs2 (by omega));have BN2:=hid (BN.out.step hs2 (by have:=YS1.out;omega));have OK2:=hid (OK1a.out.below (hole_steps hs2));have y2:=hs2.size;have e0:w2.cell? ⟨w1.heap.size,0,none⟩=some (.slice a1 (m+1) c1):=BN2.out.cell 0;have y2a:w1.heap.size<w2.heap.size:=BN2.out.lt;clear hs2;cases v)
  | (refine wpList_load_row rfl 38 (.tmp 7) rfl w1.heap.size rfl _ #[.slice a1 (m+1) c1] _ _ BN2.out Tryz.underlying38 rfl rgInfo ?_)
  | (refine wpList_store_row rfl 38 (.tmp 6) (.tmp 23) rfl w.heap.size #[.slice a1 (m+1) c1] rfl rfl _ _ B2.out rgInfo rfl (rg_one _ _ _) ?_)
  | (at_builtin;refine app_list elRc rfl _ _ rfl w2.heap.size (.slice (some ⟨w2.heap.size,0,none⟩) 0 0) 0 [] rfl (own_lit0 (t:=87) (Blk.new w2 _ _) (Nat.le_refl _)) a1 (m+1) c1 (rcCells l1) rfl (OK2.out.fill.1.1.alloc _) OK2.out.2.1 (by rw [show (rcCells l1).length=l1.length * 4 from cellsOf_length encRc_len l1,HLN.out]) (oneC_cells oneC_rc l1) (by omega) (by simp) ?_;intro v4 w4 hown4 hg4 _;have BL4:RowKit.Hid (Below w2.heap.size w2 w4):=Below.grown Bw.out hg4 (by simp) (by intro q hq;simp [Value.ownBlock] at hq;omega);have S4:=hid (stb S2.out BL4.out);simp only [Nat.zero_add,List.nil_append] at hown4;obtain ⟨g,cap,rfl,q41,q42,q43,q44⟩:=own_some hown4;have OW4:=hid hown4;have B4:=hid (B2.out.below BL4.out);have y4:=BL4.out.size;clear hown4 hg4))
 ·have BR:=setRow_heap w2 w.heap.size _ #[.slice a1 (m+1) c1] _ _ B2.out
  refine bodyPost_ret (results_cell_row rfl _ _ _ _ _ _ _ rfl BR Tryz.underlying38 rfl rgInfo) rfl ?_
  refine ⟨⟨a1,m+1,c1,l1⟩,rfl,(ok_setRow OK2.out.fill fun g off e=>by have:=F1.out g off e;omega).holed fun g off e=>by have:=F1.out g off e;omega,brk_board fun q hq _=>by have:=I1.out q hq;unfold InTen;omega,fun g off e=>by have:=F1.out g off e;omega,steps_setRow S2.out (Nat.le_refl _) _⟩
 go_upto_region 8 with (first
  | (go_at_call 16;(with_reducible refine (next_any b ((m:Int)+1) w4 S4.out.now (by omega) (by omega)).mono ?_);rintro e w5 ⟨r,p5,q5,rfl,hs5⟩;obtain ⟨k,rfl⟩:=Int.eq_ofNat_of_zero_le p5;have S5:=hid (sts S4.out hs5);have B5:=hid (B4.out.step hs5 (by omega));have OW5:=hid (own_step OW4.out hs5 (by omega));have hk5:k<l1.length:=(by have:=HLN.out;omega);have y5:=hs5.size;clear hs5 p5)
  | (go_at_call 16;(with_reducible refine (next_any b 5 w5 S5.out.now (by omega) (by omega)).mono ?_);rintro e w6 ⟨r2,p6,q6,rfl,hs6⟩;have S6:=hid (sts S5.out hs6);have B6:=hid (B5.out.step hs6 (by omega));have OW6:=hid (own_step OW5.out hs6 (by omega));have y6:=hs6.size;clear hs6;obtain ⟨⟨d0,d1,d2,d3⟩,⟨f0,f1,f2,f3⟩,th⟩:=own_rc OW6.out hk5;obtain ⟨⟨x0,x1,x2,x3⟩,hx⟩:∃ x,l1[k]=x:=⟨_,rfl⟩;have HX:=hid hx;have bb:=I1.out _ (List.getElem_mem hk5);have RG:=hid (own_rng OW6.out hk5);rw [hx] at d0 d1 d2 d3 bb RG;dsimp only at d0 d1 d2 d3 bb;obtain ⟨b0,b1,b2,b3,b4,b5⟩:=bb;have TH:=hid th;have NEG:RowKit.Hid (w.heap.size ≠ g):=(by show _ ≠ _;omega);clear th;have i0:(0:Int)≤(k:Int):=(by omega);have i1:(k:Int)<(m:Int)+1:=q5;clear hx))
 have I10:∀ t ∈ l1,Prp t→InTen t:=fun q hq _=>by have:=I1.out q hq;unfold InTen;omega
 have II:=hid I10
 clear I10
 have hb2:w.heap.size<w2.heap.size:=by omega
 obtain rfl | rfl | rfl | rfl | rfl:r2=0∨r2=1∨r2=2∨r2=3∨r2=4:=by omega
 ·go_wp2_with (refine wpList_store_row rfl 38 (.tmp 6) (.tmp 83) rfl w.heap.size #[.slice (some ⟨g,0,none⟩) (m+1) cap] rfl rfl _ _ (B6.out.far g (k * 4+2) (.int .i64 (x2+1)) NEG.out) rgInfo rfl (rg_one _ _ _) ?_)
  have BR:=setRow_heap _ w.heap.size _ #[.slice (some ⟨g,0,none⟩) (m+1) cap] _ _ (B6.out.far g (k * 4+2) (.int .i64 (x2+1)) NEG.out)
  refine bodyPost_ret (results_cell_row rfl _ _ _ _ _ _ _ rfl BR Tryz.underlying38 rfl rgInfo) rfl ?_
  refine kbr_fin (l:=l1.set k (x0,x1,x2+1,x3)) (stored_steps S6.out OW6.out (by omega) _ _) ?_ hb2 (by rw [List.length_set];exact HLN.out) (by omega) hlt (set_all II.out (fun hp=>by unfold InTen;dsimp only;omega))
  have:=(OW6.out.stored (k * 4+2) (.int .i64 (x2+1))).1
  rwa [show (rcCells l1).set (k * 4+2) (.int .i64 (x2+1))=rcCells (l1.set k (x0,x1,x2+1,x3)) from cells_set encRc_len l1 k 2 _ _ hk5 (by omega) (by rw [HX.out];rfl)] at this
 ·go_wp2_with (refine wpList_store_row rfl 38 (.tmp 6) (.tmp 83) rfl w.heap.size #[.slice (some ⟨g,0,none⟩) (m+1) cap] rfl rfl _ _ (B6.out.far g (k * 4) (.int .i64 (-1)) NEG.out) rgInfo rfl (rg_one _ _ _) ?_)
  have BR:=setRow_heap _ w.heap.size _ #[.slice (some ⟨g,0,none⟩) (m+1) cap] _ _ (B6.out.far g (k * 4) (.int .i64 (-1)) NEG.out)
  refine bodyPost_ret (results_cell_row rfl _ _ _ _ _ _ _ rfl BR Tryz.underlying38 rfl rgInfo) rfl ?_
  refine kbr_fin (l:=l1.set k ((-1:Int),x1,x2,x3)) (stored_steps S6.out OW6.out (by omega) _ _) ?_ hb2 (by rw [List.length_set];exact HLN.out) (by omega) hlt (set_all II.out (fun hp=>by unfold Prp at hp;dsimp only at hp;omega))
  have:=(OW6.out.stored (k * 4) (.int .i64 (-1))).1
  rwa [show (rcCells l1).set (k * 4) (.int .i64 (-1))=rcCells (l1.set k ((-1:Int),x1,x2,x3)) from cells_set encRc_len l1 k 0 _ _ hk5 (by omega) (by rw [HX.out];rfl)] at this
 ·go_wp2_with (first
   | (refine wpList_load_mid rfl 87 (.tmp 64) rfl g (k * 4) rfl [.int .i64 x0,.int .i64 x1,.int .i64 x2,.int .i64 x3] _ RG.out Tryz.underlying87 rfl rcInfo ?_)
   | (refine bs_one elRc (by decide) rfl (.tmp 65) rfl #[.int .i64 x0,.int .i64 x1,.int .i64 x2,.int .i64 x3] rfl rfl ?_)
   | (at_builtin;refine app_list elRc rfl _ _ rfl w2.heap.size (.slice (some ⟨g,0,none⟩) (m+1) cap) (m+1) (rcCells l1) rfl (own_keep OW6.out Bw.out) _ 1 _ (encRc (x0,x1,x2,x3)) rfl (by first | exact vw_blk (Blk.fresh (by simp)) | exact vw_blk (Blk.fresh (by simp)).drew) (by simp) rfl (oneC_rc _) (by omega) (by simp;omega) ?_;intro v7 w7 hown7 hg7 _;obtain ⟨g7,cap7,rfl,q71,q72,q73,q74⟩:=own_some hown7;have OW7:=hid hown7;have S7:=hid (steps_app (sal S6.out _) (own_base (own_keep OW6.out (bal (Below.refl _ _) _)) (by omega)) hg7);have B7:=hid ((hg7.block _ (B6.out.alloc (.cells #[.int .i64 x0,.int .i64 x1,.int .i64 x2,.int .i64 x3] 87)).lt (by simp [Value.ownBlock];omega)).trans (B6.out.alloc (.cells #[.int .i64 x0,.int .i64 x1,.int .i64 x2,.int .i64 x3] 87)));clear hown7 hg7)
   | (refine wpList_store_row rfl 38 (.tmp 6) (.tmp 83) rfl w.heap.size #[.slice (some ⟨g7,0,none⟩) (m+1+1) cap7] rfl rfl _ _ B7.out rgInfo rfl (rg_one _ _ _) ?_))
  have BR:=setRow_heap _ w.heap.size _ #[.slice (some ⟨g7,0,none⟩) (m+1+1) cap7] _ _ B7.out
  refine bodyPost_ret (results_cell_row rfl _ _ _ _ _ _ _ rfl BR Tryz.underlying38 rfl rgInfo) rfl ?_
  refine kbr_fin (l:=l1++[(x0,x1,x2,x3)]) S7.out ?_ hb2 (by simp [HLN.out]) (by omega) hlt (fun t ht=>?_)
  ·have:=OW7.out
   rwa [← rcCells_snoc] at this
  ·rcases List.mem_append.1 ht with ht | ht
   ·exact II.out t ht
   ·rw [List.mem_singleton.1 ht]
    have:=List.getElem_mem hk5
    rw [HX.out] at this
    exact II.out _ this
 ·by_cases hk0:k=0
  ·subst hk0
   simp only [Nat.zero_mul,Nat.zero_add] at d0 d1 d2 d3 f0 f1 f2 f3
   go_upto_region 15 with fail
   go_region_with (fail)
   all_goals
    obtain ⟨W8,hW8⟩:∃ W8,((((((((w6.setCell ⟨g,0,none⟩ (.int .i64 x0)).setCell ⟨g,1,none⟩ (.int .i64 x1)).setCell ⟨g,2,none⟩ (.int .i64 x2)).setCell ⟨g,3,none⟩ (.int .i64 x3)).setCell ⟨g,0,none⟩ (.int .i64 x0)).setCell ⟨g,1,none⟩ (.int .i64 x1)).setCell ⟨g,2,none⟩ (.int .i64 x2)).setCell ⟨g,3,none⟩ (.int .i64 x3)).drew=W8:=⟨_,rfl⟩
    obtain ⟨h8,g8⟩:=swap8 OW6.out (x0,x1,x2,x3) (x0,x1,x2,x3) hk5
    have e8:((((((((w6.setCell ⟨g,0,none⟩ (.int .i64 x0)).setCell ⟨g,1,none⟩ (.int .i64 x1)).setCell ⟨g,2,none⟩ (.int .i64 x2)).setCell ⟨g,3,none⟩ (.int .i64 x3)).setCell ⟨g,0,none⟩ (.int .i64 x0)).setCell ⟨g,1,none⟩ (.int .i64 x1)).setCell ⟨g,2,none⟩ (.int .i64 x2)).setCell ⟨g,3,none⟩ (.int .i64 x3)).drew=W8:=hW8
    change World.ownsRow ((((((((w6.setCell ⟨g,0,none⟩ (.int .i64 x0)).setCell ⟨g,1,none⟩ (.int .i64 x1)).setCell ⟨g,2,none⟩ (.int .i64 x2)).setCell ⟨g,3,none⟩ (.int .i64 x3)).setCell ⟨g,0,none⟩ (.int .i64 x0)).setCell ⟨g,1,none⟩ (.int .i64 x1)).setCell ⟨g,2,none⟩ (.int .i64 x2)).setCell ⟨g,3,none⟩ (.int .i64 x3)).drew _ _ _ _ _ _ at h8
    change World.grownBy _ ((((((((w6.setCell ⟨g,0,none⟩ (.int .i64 x0)).setCell ⟨g,1,none⟩ (.int .i64 x1)).setCell ⟨g,2,none⟩ (.int .i64 x2)).setCell ⟨g,3,none⟩ (.int .i64 x3)).setCell ⟨g,0,none⟩ (.int .i64 x0)).setCell ⟨g,1,none⟩ (.int .i64 x1)).setCell ⟨g,2,none⟩ (.int .i64 x2)).setCell ⟨g,3,none⟩ (.int .i64 x3)).drew _ at g8
    rw [e8] at h8 g8
    have S8:=hid (steps_own S6.out OW6.out (by omega) g8)
    have B8:=hid ((g8.block _ B6.out.lt (by simp;exact fun e=>NEG.out e)).trans B6.out)
    have OW8:=hid h8
    clear h8 g8
    rw [hW8]
    clear hW8 e8
    go_wp2_with (refine wpList_store_row rfl 38 (.tmp 6) (.tmp 83) rfl w.heap.size #[.slice (some ⟨g,0,none⟩) (m+1) cap] rfl rfl _ _ B8.out rgInfo rfl (rg_one _ _ _) ?_)
    have BR:=setRow_heap _ w.heap.size _ #[.slice (some ⟨g,0,none⟩) (m+1) cap] _ _ B8.out
    refine bodyPost_ret (results_cell_row rfl _ _ _ _ _ _ _ rfl BR Tryz.underlying38 rfl rgInfo) rfl ?_
    refine kbr_fin S8.out OW8.out hb2 (by rw [List.length_set,List.length_set];exact HLN.out) (by omega) hlt (set_all (set_all II.out fun hp=>II.out _ (by have:=List.getElem_mem hk5;rw [HX.out] at this;exact this) hp) fun hp=>?_)
    exact II.out _ (by have:=List.getElem_mem hk5;rw [HX.out] at this;exact this) hp
  ·obtain ⟨⟨c0,c1',c2,c3⟩,⟨r0,r1,r2',r3⟩,-⟩:=own_rc OW6.out (show 0<l1.length by omega)
   obtain ⟨⟨y0,y1,y2',y3⟩,hy⟩:∃ y,l1[0]'(by omega)=y:=⟨_,rfl⟩
   have HY:RowKit.Hid ((y0,y1,y2',y3) ∈ l1):=by show _ ∈ _;rw [← hy];exact List.getElem_mem _
   rw [hy] at c0 c1' c2 c3
   simp only [Nat.zero_mul,Nat.zero_add] at c0 c1' c2 c3 r0 r1 r2' r3
   clear hy
   have n00:¬ k * 4=0:=by omega
   have n01:¬ k * 4=1:=by omega
   have n02:¬ k * 4=2:=by omega
   have n03:¬ k * 4=3:=by omega
   have n10:¬ k * 4+1=0:=by omega
   have n11:¬ k * 4+1=1:=by omega
   have n12:¬ k * 4+1=2:=by omega
   have n13:¬ k * 4+1=3:=by omega
   have n20:¬ k * 4+2=0:=by omega
   have n21:¬ k * 4+2=1:=by omega
   have n22:¬ k * 4+2=2:=by omega
   have n23:¬ k * 4+2=3:=by omega
   have n30:¬ k * 4+3=0:=by omega
   have n31:¬ k * 4+3=1:=by omega
   have n32:¬ k * 4+3=2:=by omega
   have n33:¬ k * 4+3=3:=by omega
   go_upto_region 15 with fail
   go_region_with (fail)
   all_goals
    obtain ⟨W8,hW8⟩:∃ W8,((((((((w6.setCell ⟨g,0,none⟩ (.int .i64 x0)).setCell ⟨g,1,none⟩ (.int .i64 x1)).setCell ⟨g,2,none⟩ (.int .i64 x2)).setCell ⟨g,3,none⟩ (.int .i64 x3)).setCell ⟨g,k * 4,none⟩ (.int .i64 y0)).setCell ⟨g,k * 4+1,none⟩ (.int .i64 y1)).setCell ⟨g,k * 4+2,none⟩ (.int .i64 y2')).setCell ⟨g,k * 4+3,none⟩ (.int .i64 y3)).drew=W8:=⟨_,rfl⟩
    obtain ⟨h8,g8⟩:=swap8 OW6.out (x0,x1,x2,x3) (y0,y1,y2',y3) hk5
    have e8:((((((((w6.setCell ⟨g,0,none⟩ (.int .i64 x0)).setCell ⟨g,1,none⟩ (.int .i64 x1)).setCell ⟨g,2,none⟩ (.int .i64 x2)).setCell ⟨g,3,none⟩ (.int .i64 x3)).setCell ⟨g,k * 4,none⟩ (.int .i64 y0)).setCell ⟨g,k * 4+1,none⟩ (.int .i64 y1)).setCell ⟨g,k * 4+2,none⟩ (.int .i64 y2')).setCell ⟨g,k * 4+3,none⟩ (.int .i64 y3)).drew=W8:=hW8
    change World.ownsRow ((((((((w6.setCell ⟨g,0,none⟩ (.int .i64 x0)).setCell ⟨g,1,none⟩ (.int .i64 x1)).setCell ⟨g,2,none⟩ (.int .i64 x2)).setCell ⟨g,3,none⟩ (.int .i64 x3)).setCell ⟨g,k * 4,none⟩ (.int .i64 y0)).setCell ⟨g,k * 4+1,none⟩ (.int .i64 y1)).setCell ⟨g,k * 4+2,none⟩ (.int .i64 y2')).setCell ⟨g,k * 4+3,none⟩ (.int .i64 y3)).drew _ _ _ _ _ _ at h8
    change World.grownBy _ ((((((((w6.setCell ⟨g,0,none⟩ (.int .i64 x0)).setCell ⟨g,1,none⟩ (.int .i64 x1)).setCell ⟨g,2,none⟩ (.int .i64 x2)).setCell ⟨g,3,none⟩ (.int .i64 x3)).setCell ⟨g,k * 4,none⟩ (.int .i64 y0)).setCell ⟨g,k * 4+1,none⟩ (.int .i64 y1)).setCell ⟨g,k * 4+2,none⟩ (.int .i64 y2')).setCell ⟨g,k * 4+3,none⟩ (.int .i64 y3)).drew _ at g8
    rw [e8] at h8 g8
    have S8:=hid (steps_own S6.out OW6.out (by omega) g8)
    have B8:=hid ((g8.block _ B6.out.lt (by simp;exact fun e=>NEG.out e)).trans B6.out)
    have OW8:=hid h8
    clear h8 g8
    rw [hW8]
    clear hW8 e8
    go_wp2_with (refine wpList_store_row rfl 38 (.tmp 6) (.tmp 83) rfl w.heap.size #[.slice (some ⟨g,0,none⟩) (m+1) cap] rfl rfl _ _ B8.out rgInfo rfl (rg_one _ _ _) ?_)
    have BR:=setRow_heap _ w.heap.size _ #[.slice (some ⟨g,0,none⟩) (m+1) cap] _ _ B8.out
    refine bodyPost_ret (results_cell_row rfl _ _ _ _ _ _ _ rfl BR Tryz.underlying38 rfl rgInfo) rfl ?_
    refine kbr_fin S8.out OW8.out hb2 (by rw [List.length_set,List.length_set];exact HLN.out) (by omega) hlt (set_all (set_all II.out fun hp=>II.out _ (by have:=List.getElem_mem hk5;rw [HX.out] at this;exact this) hp) fun hp=>?_)
    exact II.out _ HY.out hp
 ·go_wp2_with (refine wpList_store_row rfl 38 (.tmp 6) (.tmp 83) rfl w.heap.size #[.slice (some ⟨g,0,none⟩) (m+1) cap] rfl rfl _ _ (B6.out.far g (k * 4+3) (.int .i64 x1) NEG.out) rgInfo rfl (rg_one _ _ _) ?_)
  have BR:=setRow_heap _ w.heap.size _ #[.slice (some ⟨g,0,none⟩) (m+1) cap] _ _ (B6.out.far g (k * 4+3) (.int .i64 x1) NEG.out)
  refine bodyPost_ret (results_cell_row rfl _ _ _ _ _ _ _ rfl BR Tryz.underlying38 rfl rgInfo) rfl ?_
  refine kbr_fin (l:=l1.set k (x0,x1,x2,x1)) (stored_steps S6.out OW6.out (by omega) _ _) ?_ hb2 (by rw [List.length_set];exact HLN.out) (by omega) hlt (set_all II.out (fun hp=>by unfold Prp at hp;dsimp only at hp;omega))
  have:=(OW6.out.stored (k * 4+3) (.int .i64 x1)).1
  rwa [show (rcCells l1).set (k * 4+3) (.int .i64 x1)=rcCells (l1.set k (x0,x1,x2,x1)) from cells_set encRc_len l1 k 3 _ _ hk5 (by omega) (by rw [HX.out];rfl)] at this
theorem vw_set {w:World} {g i:Nat} {xs:List Value} {v:Value} (h:Vw w (some ⟨g,0,none⟩) xs) (hi:i<xs.length):Vw (w.setCell ⟨g,i,none⟩ v) (some ⟨g,0,none⟩) (xs.set i v):=fun j u hj=>by
 refine ⟨g,0,rfl,?_⟩
 rw [Nat.zero_add]
 by_cases e:j=i
 ·subst e
  rw [List.getElem?_set_self hi] at hj
  cases hj
  obtain ⟨b,o,e1,hc⟩:=h j _ (List.getElem?_eq_getElem hi)
  cases e1
  rw [Nat.zero_add] at hc
  exact World.cell?_setCell_same _ _ _ hc
 ·rw [List.getElem?_set_ne (Ne.symm e)] at hj
  obtain ⟨b,o,e1,hc⟩:=h j _ hj
  cases e1
  rw [Nat.zero_add] at hc
  rw [World.cell?_setCell_other _ _ _ _ (by intro e2;injection e2;omega)]
  exact hc
theorem vw_far {w:World} {g o:Nat} {a:Option Addr} {xs:List Value} {v:Value} (h:Vw w a xs) (hne:∀ q off,a=some ⟨q,off,none⟩→q ≠ g):Vw (w.setCell ⟨g,o,none⟩ v) a xs:=fun i u hi=>by
 obtain ⟨b,off,e,hc⟩:=h i u hi
 refine ⟨b,off,e,?_⟩
 rw [World.cell?_setCell_other _ _ _ _ (by intro e2;injection e2 with e3;exact hne b off e e3.symm)]
 exact hc
theorem rws_far {α:Type} {enc:α→List Value} {w:World} {g o m:Nat} {s:Sc α} {v:Value} (h:Rws enc w s m) (hne:∀ q off,s.a=some ⟨q,off,none⟩→q ≠ g):Rws enc (w.setCell ⟨g,o,none⟩ v) s m:=⟨vw_far h.vw hne,h.len,h.few,h.nil⟩
theorem tyS_set {w:World} {g o:Nat} {s:Sc Rc} {v:Value} (h:TyS w s):TyS (w.setCell ⟨g,o,none⟩ v) s:=fun hl=>by
 obtain ⟨b,off,T,cs,h1,h2,h3⟩:=h hl
 by_cases e:b=g
 ·subst e;exact ⟨b,off,T,_,h1,h2.put o v,h3⟩
 ·exact ⟨b,off,T,cs,h1,h2.far g o v e,h3⟩
theorem ok_cell {w:World} {g o:Nat} {s:Sc Rc} {v:Value} (h:ScOk2 w s) (hwin:∀ s0,s0≤o→o<s0+4→∃ k,k<4∧∀ z,w.cell? ⟨g,s0+k,none⟩ ≠ some (.int .i64 z)):ScOk2 (w.setCell ⟨g,o,none⟩ v) s:=by
 refine ⟨⟨fun i u hi=>?_,h.1.2⟩,h.2.1,tyS_set h.2.2⟩
 obtain ⟨b,off,e,hc⟩:=h.1.1 i u hi
 refine ⟨b,off,e,?_⟩
 rw [World.cell?_setCell_other _ _ _ _ ?_]
 ·exact hc
 intro e2
 injection e2 with e3 e4
 have hil:i<s.l.length * 4:=by
  have:=(List.getElem?_eq_some_iff.1 hi).1
  rwa [show (rcCells s.l).length=s.l.length * 4 from cellsOf_length encRc_len s.l] at this
 obtain ⟨b',off',e',-,h0,h1,h2,h3⟩:=h.1.1.rc (i / 4) (by omega)
 rw [e] at e'
 cases e'
 obtain ⟨k,hk,hz⟩:=hwin (off+i / 4 * 4) (by omega) (by omega)
 rw [e3] at hz
 have hk4:k=0∨k=1∨k=2∨k=3:=by omega
 rcases hk4 with rfl | rfl | rfl | rfl
 ·exact hz _ h0
 ·exact hz _ h1
 ·exact hz _ h2
 ·exact hz _ h3
theorem ok_far {w:World} {g o:Nat} {s:Sc Rc} {v:Value} (h:ScOk2 w s) (hne:s.l ≠ []→∀ q off,s.a=some ⟨q,off,none⟩→q ≠ g):ScOk2 (w.setCell ⟨g,o,none⟩ v) s:=by
 by_cases hl:s.l=[]
 ·exact ok_nil h hl
 ·exact ⟨⟨vw_far h.1.1 (hne hl),h.1.2⟩,h.2.1,tyS_set h.2.2⟩
theorem hole_setCell {b g o:Nat} {w:World} {v:Value} (hne:g ≠ b):hole b (w.setCell ⟨g,o,none⟩ v)=(hole b w).setCell ⟨g,o,none⟩ v:=by
 unfold hole World.setCell
 congr 1
 apply Array.ext_getElem?
 intro i
 by_cases e:i=b
 ·subst e
  by_cases hl:i<w.heap.size
  ·rw [Array.getElem?_setIfInBounds_self_of_lt (by simpa using hl),Array.getElem?_modify,if_neg hne,Array.getElem?_setIfInBounds_self_of_lt hl]
  ·rw [Array.getElem?_eq_none (by simpa using hl),Array.getElem?_eq_none (by simpa using hl)]
 ·rw [Array.getElem?_setIfInBounds_ne (Ne.symm e),Array.getElem?_modify,Array.getElem?_modify,Array.getElem?_setIfInBounds_ne (Ne.symm e)]
section
variable {w:World} {rc:Sc Rc} {crop y d:Int} {cr:Sc Crp} {hi:Sc RcdM} {zo:Sc FtrM}
theorem PlR.re (h:PlR w (kwP rc crop cr hi zo y d)) (crop' y' d':Int):PlR w (kwP rc crop' cr hi zo y' d') :=
 ⟨⟨h.g.cr,h.g.hi,h.g.zo,h.g.rc,h.g.cat,h.g.his,h.g.hgood,h.g.zos,h.g.zgood⟩,h.cat,h.cap,h.hcb,h.zcb,h.rb⟩
theorem PlR.fill {b:Nat} {p:PlM} (h:PlR (hole b w) p):PlR w p:=⟨h.g.fill,h.cat,h.cap,h.hcb,h.zcb,h.rb⟩
theorem Cat.take {l:List Crp} (h:Cat l) (k:Nat):Cat (l.take k) where
 len:=by have:=h.len;rw [List.length_take];omega
 name:=fun j hj=>by rw [List.getElem_take];exact h.name j (by rw [List.length_take] at hj;omega)
 fam:=fun c hc=>h.fam c (List.mem_of_mem_take hc)
theorem Cat.set {l:List Crp} (h:Cat l) {c:Crp} (h0:0<l.length) (hn:c.name=l[0].name) (hf:0≤c.family∧c.family≤40):Cat (l.set 0 c) where
 len:=by have:=h.len;rw [List.length_set];omega
 name:=fun j hj=>by
  rw [List.getElem_set]
  split
  ·rename_i e;subst e;rw [hn];exact h.name 0 h0
  ·exact h.name j (by rw [List.length_set] at hj;exact hj)
 fam:=fun x hx=>by
  rcases List.mem_or_eq_of_mem_set hx with hx | rfl
  ·exact h.fam x hx
  ·exact hf
theorem PlR.one {ca:Option Addr} {n c:Nat} {cl:List Crp} (h:PlR w (kwP rc crop ⟨ca,n,c,cl⟩ hi zo y d)) (hn:1≤n) (hg:HGood (hi.l.map RcdM.pl)):PlR w (kwP rc crop ⟨ca,1,c,cl.take 1⟩ hi zo y d):=by
 have hlen:cl.length=n:=h.g.cr.len
 have hv:Vw w ca (cellsOf encCrp (cl.take 1)):=by
  have:=h.g.cr.vw.take (1 * 3)
  rwa [show (kwP rc crop ⟨ca,n,c,cl⟩ hi zo y d).cr.l=cl from rfl,cellsOf_take encCrp_len] at this
 have hc:Cat cl:=h.cat
 exact ⟨⟨⟨hv,by dsimp only [kwP];rw [List.length_take];omega,by dsimp only [kwP];omega,fun e=>by have:=h.g.cr.nil e;dsimp only [kwP] at this;omega⟩,h.g.hi,h.g.zo,h.g.rc,(hc.take 1).toM,h.g.his,fun _=>hg,h.g.zos,h.g.zgood⟩,hc.take 1,h.cap,h.hcb,h.zcb,h.rb⟩
theorem PlR.marks {g n c:Nat} {cl:List Crp} (h:PlR w (kwP rc crop ⟨some ⟨g,0,none⟩,n,c,cl⟩ hi zo y d)) (hn:2≤n) (h1:∀ q off,hi.a=some ⟨q,off,none⟩→q ≠ g) (h2:∀ q off,zo.a=some ⟨q,off,none⟩→q ≠ g) (v:Int) :
  ∃ cl',PlR (w.setCell ⟨g,2,none⟩ (.int .i64 v)) (kwP rc crop ⟨some ⟨g,0,none⟩,n,c,cl'⟩ hi zo y d):=by
 have hlen:cl.length=n:=h.g.cr.len
 have hc:Cat cl:=h.cat
 have hV:Vw w (some ⟨g,0,none⟩) (cellsOf encCrp cl):=h.g.cr.vw
 obtain ⟨c0,c1,l,rfl⟩:∃ c0 c1 l,cl=c0 :: c1 :: l:=by
  match cl,hlen with
  | c0 :: c1 :: l,_=>exact ⟨c0,c1,l,rfl⟩
  | [x],h=>simp at h;omega
  | [],h=>simp at h;omega
 obtain ⟨_,_,e0,k0⟩:=hV 0 (.string c0.name) rfl
 cases e0
 obtain ⟨_,_,e3,k3⟩:=hV 3 (.string c1.name) rfl
 cases e3
 have hwin:∀ s0,s0≤2→2<s0+4→∃ k,k<4∧∀ z,w.cell? ⟨g,s0+k,none⟩ ≠ some (.int .i64 z):=by
  intro s0 a1 a2
  by_cases e:s0=0
  ·subst e;exact ⟨0,by omega,fun z=>by rw [show 0+0=0 from rfl] at *;rw [k0];exact fun c=>by cases c⟩
  ·refine ⟨3 - s0,by omega,fun z=>?_⟩
   rw [show s0+(3 - s0)=0+3 by omega,k3]
   exact fun c=>by cases c
 have hcc:Cat ((c0 :: c1 :: l).set 0 ⟨c0.name,c0.family,v⟩):=hc.set (by simp) rfl (hc.fam c0 List.mem_cons_self)
 have hv2:Vw (w.setCell ⟨g,2,none⟩ (.int .i64 v)) (some ⟨g,0,none⟩) (cellsOf encCrp ((c0 :: c1 :: l).set 0 ⟨c0.name,c0.family,v⟩)):=by
  have:=vw_set (v:=.int .i64 v) hV (show 2<_ by rw [cellsOf_length encCrp_len];simp;omega)
  rwa [show (cellsOf encCrp (c0 :: c1 :: l)).set 2 (.int .i64 v)=cellsOf encCrp ((c0 :: c1 :: l).set 0 ⟨c0.name,c0.family,v⟩) from cells_set encCrp_len (c0 :: c1 :: l) 0 2 _ _ (by simp) (by omega) rfl] at this
 exact ⟨(c0 :: c1 :: l).set 0 ⟨c0.name,c0.family,v⟩,⟨⟨hv2,hlen,h.g.cr.few,fun e=>by cases e⟩,rws_far h.g.hi h1,rws_far h.g.zo h2,ok_cell h.g.rc hwin,hcc.toM,fun r hr=>ok_cell (h.g.his r hr) hwin,h.g.hgood,fun r hr=>ok_cell (h.g.zos r hr) hwin,h.g.zgood⟩,hcc,h.cap,h.hcb,h.zcb,h.rb⟩
theorem PlR.hist {g n c:Nat} {hl:List RcdM} (h:PlR w (kwP rc crop cr ⟨some ⟨g,0,none⟩,n,c,hl⟩ zo y d)) (hn:1≤n) (hg:HGood (hl.map RcdM.pl)) (hcr:cr.n≤40) (h1:∀ q off,cr.a=some ⟨q,off,none⟩→q ≠ g) (h2:∀ q off,zo.a=some ⟨q,off,none⟩→q ≠ g) (v:Int) :
  ∃ hl',PlR (w.setCell ⟨g,1,none⟩ (.int .i64 v)) (kwP rc crop cr ⟨some ⟨g,0,none⟩,n,c,hl'⟩ zo y d):=by
 have hlen:hl.length=n:=h.g.hi.len
 have hV:Vw w (some ⟨g,0,none⟩) (cellsOf encRcd hl):=h.g.hi.vw
 obtain ⟨r0,l,rfl⟩:∃ r0 l,hl=r0 :: l:=by
  match hl,hlen with
  | r0 :: l,_=>exact ⟨r0,l,rfl⟩
  | [],h=>simp at h;omega
 obtain ⟨_,_,e0,k2⟩:=hV 2 (.slice r0.s.a r0.s.n r0.s.c) rfl
 cases e0
 have hwin:∀ s0,s0≤1→1<s0+4→∃ k,k<4∧∀ z,w.cell? ⟨g,s0+k,none⟩ ≠ some (.int .i64 z):=by
  intro s0 a1 a2
  refine ⟨2 - s0,by omega,fun z=>?_⟩
  rw [show s0+(2 - s0)=0+2 by omega,k2]
  exact fun c=>by cases c
 have hset:(r0 :: l).set 0 (⟨r0.year,v,r0.s⟩:RcdM)=⟨r0.year,v,r0.s⟩ :: l:=rfl
 have hv2:Vw (w.setCell ⟨g,1,none⟩ (.int .i64 v)) (some ⟨g,0,none⟩) (cellsOf encRcd (⟨r0.year,v,r0.s⟩ :: l)):=by
  have:=vw_set (v:=.int .i64 v) hV (show 1<_ by rw [cellsOf_length encRcd_len];simp;omega)
  rwa [show (cellsOf encRcd (r0 :: l)).set 1 (.int .i64 v)=cellsOf encRcd (⟨r0.year,v,r0.s⟩ :: l) from cells_set encRcd_len (r0 :: l) 0 1 ⟨r0.year,v,r0.s⟩ _ (by simp) (by omega) rfl] at this
 have hmem:∀ r ∈ (⟨r0.year,v,r0.s⟩ :: l:List RcdM),r=⟨r0.year,v,r0.s⟩∨r ∈ r0 :: l:=fun r hr=>by
  rcases List.mem_cons.1 hr with rfl | hr
  ·exact .inl rfl
  ·exact .inr (List.mem_cons_of_mem _ hr)
 have hgood:(∀ r ∈ (⟨r0.year,v,r0.s⟩ :: l:List RcdM),wrongB r.crop cr.n=false)→HGood ((⟨r0.year,v,r0.s⟩ :: l:List RcdM).map RcdM.pl):=fun hw=>by
  have hv:=wrongB_no (hw _ List.mem_cons_self)
  dsimp only at hv
  refine ⟨by have:=hg.len;simpa using this,fun r hr=>?_,fun i j hj hi e=>?_⟩
  ·obtain ⟨q,hq,rfl⟩:=List.mem_map.1 hr
   rcases hmem q hq with rfl | hq
   ·have h0:=hg.ok _ (List.mem_map.2 ⟨r0,List.mem_cons_self,rfl⟩)
    exact ⟨h0.year,⟨hv.1,show v<40 by omega⟩,h0.some,h0.valid⟩
   ·exact hg.ok _ (List.mem_map.2 ⟨q,hq,rfl⟩)
  ·have key:∀ (k:Nat) (hk:k<((⟨r0.year,v,r0.s⟩ :: l:List RcdM).map RcdM.pl).length),((⟨r0.year,v,r0.s⟩ :: l:List RcdM).map RcdM.pl)[k].year=((r0 :: l).map RcdM.pl)[k].year∧((⟨r0.year,v,r0.s⟩ :: l:List RcdM).map RcdM.pl)[k].rects=((r0 :: l).map RcdM.pl)[k].rects:=by
    intro k hk
    cases k with
    | zero=>exact ⟨rfl,rfl⟩
    | succ k=>exact ⟨rfl,rfl⟩
   rw [(key i (by omega)).1,(key j hj).1] at e
   rw [(key i (by omega)).2,(key j hj).2]
   exact hg.lap i j (by simpa using hj) hi e
 exact ⟨⟨r0.year,v,r0.s⟩ :: l,⟨⟨rws_far h.g.cr h1,⟨hv2,hlen,h.g.hi.few,fun e=>by cases e⟩,rws_far h.g.zo h2,ok_cell h.g.rc hwin,h.g.cat,fun r hr=>by
  rcases hmem r hr with rfl | hr
  ·exact ok_cell (h.g.his r0 List.mem_cons_self) hwin
  ·exact ok_cell (h.g.his r hr) hwin,hgood,fun r hr=>ok_cell (h.g.zos r hr) hwin,h.g.zgood⟩,h.cat,h.cap,fun r hr=>by
  rcases hmem r hr with rfl | hr
  ·exact h.hcb r0 List.mem_cons_self
  ·exact h.hcb r hr,h.zcb,h.rb⟩⟩
theorem PlR.zone {g n c:Nat} {zl:List FtrM} (h:PlR w (kwP rc crop cr hi ⟨some ⟨g,0,none⟩,n,c,zl⟩ y d)) (hn:1≤n) (h1:∀ q off,cr.a=some ⟨q,off,none⟩→q ≠ g) (h2:∀ q off,hi.a=some ⟨q,off,none⟩→q ≠ g)
  (h3:rc.l ≠ []→∀ q off,rc.a=some ⟨q,off,none⟩→q ≠ g) (h4:∀ r ∈ hi.l,r.s.l ≠ []→∀ q off,r.s.a=some ⟨q,off,none⟩→q ≠ g) (h5:∀ r ∈ zl,r.s.l ≠ []→∀ q off,r.s.a=some ⟨q,off,none⟩→q ≠ g) (v:Int) :
  ∃ zl',PlR (w.setCell ⟨g,1,none⟩ (.int .i64 v)) (kwP rc crop cr hi ⟨some ⟨g,0,none⟩,n,c,zl'⟩ y d):=by
 have hlen:zl.length=n:=h.g.zo.len
 have hV:Vw w (some ⟨g,0,none⟩) (cellsOf encFtr zl):=h.g.zo.vw
 obtain ⟨r0,l,rfl⟩:∃ r0 l,zl=r0 :: l:=by
  match zl,hlen with
  | r0 :: l,_=>exact ⟨r0,l,rfl⟩
  | [],h=>simp at h;omega
 have hv2:Vw (w.setCell ⟨g,1,none⟩ (.int .i64 v)) (some ⟨g,0,none⟩) (cellsOf encFtr (⟨r0.number,v,r0.since,r0.till,r0.s⟩ :: l)):=by
  have:=vw_set (v:=.int .i64 v) hV (show 1<_ by rw [cellsOf_length encFtr_len];simp;omega)
  rwa [show (cellsOf encFtr (r0 :: l)).set 1 (.int .i64 v)=cellsOf encFtr (⟨r0.number,v,r0.since,r0.till,r0.s⟩ :: l) from cells_set encFtr_len (r0 :: l) 0 1 ⟨r0.number,v,r0.since,r0.till,r0.s⟩ _ (by simp) (by omega) rfl] at this
 have hmem:∀ r ∈ (⟨r0.number,v,r0.since,r0.till,r0.s⟩ :: l:List FtrM),r=⟨r0.number,v,r0.since,r0.till,r0.s⟩∨r ∈ r0 :: l:=fun r hr=>by
  rcases List.mem_cons.1 hr with rfl | hr
  ·exact .inl rfl
  ·exact .inr (List.mem_cons_of_mem _ hr)
 have hz:=h.g.zgood
 have hgood:LGood ((⟨r0.number,v,r0.since,r0.till,r0.s⟩ :: l:List FtrM).map FtrM.pl):=by
  refine ⟨by have:=hz.len;simpa [kwP] using this,fun r hr=>?_,?_⟩
  ·obtain ⟨q,hq,rfl⟩:=List.mem_map.1 hr
   rcases hmem q hq with rfl | hq
   ·have h0:=hz.good _ (List.mem_map.2 ⟨r0,List.mem_cons_self,rfl⟩)
    exact ⟨h0.number,h0.days,h0.some,h0.valid⟩
   ·exact hz.good _ (List.mem_map.2 ⟨q,hq,rfl⟩)
  ·have hp:=hz.pair
   simp only [kwP,List.map_cons,List.pairwise_cons] at hp ⊢
   exact ⟨fun a ha=>hp.1 a ha,hp.2⟩
 exact ⟨⟨r0.number,v,r0.since,r0.till,r0.s⟩ :: l,⟨⟨rws_far h.g.cr h1,rws_far h.g.hi h2,⟨hv2,hlen,h.g.zo.few,fun e=>by cases e⟩,ok_far h.g.rc h3,h.g.cat,fun r hr=>ok_far (h.g.his r hr) (h4 r hr),h.g.hgood,fun r hr=>by
  rcases hmem r hr with rfl | hr
  ·exact ok_far (h.g.zos r0 List.mem_cons_self) (h5 r0 List.mem_cons_self)
  ·exact ok_far (h.g.zos r hr) (h5 r hr),hgood⟩,h.cat,h.cap,h.hcb,fun r hr=>by
  rcases hmem r hr with rfl | hr
  ·exact h.zcb r0 List.mem_cons_self
  ·exact h.zcb r hr,h.rb⟩⟩
end
end Go.Proofs.YtancajcelmhnkaaGreatDoor
