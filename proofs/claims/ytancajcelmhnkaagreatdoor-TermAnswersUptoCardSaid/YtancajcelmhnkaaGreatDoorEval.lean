/- place.eval: where a valid term holds. -/
import Derived.Test.YtancajcelmhnkaaGreatDoorGm
set_option maxRecDepth 100000
set_option maxHeartbeats 4000000
namespace Go.Proofs.YtancajcelmhnkaaGreatDoor
open Go.RowKit Go.Sort Go.Shelf
set_option linter.unusedVariables false
set_option linter.unusedSimpArgs false
theorem infoSq:(Tryz.prog.info? 100).map (fun i=>(i.zero,i.size,i.bytes))=some (some (.agg #[.slice none 0 0,.slice none 0 0,.slice none 0 0]),3,72):=by kernel_rfl
theorem elSq:ElT Tryz.prog 149 100 3 72:=.mk' Tryz.underlying149 infoSq rfl (by decide) (by decide)
theorem oneC_sq (s:SqM):OneC (encSq s):=fun u hu=>by simp [encSq] at hu;rcases hu with rfl | rfl | rfl <;> rfl
theorem tm_one (op num more:Int) (a:Option Addr) (n c:Nat):(#[.int .i64 op,.int .i64 num,.int .i64 more,.slice a n c]:Array Value).all (·.oneCell')=true:=by
 rw [List.all_toArray];rfl
theorem can_app {w w':World} {base k n:Nat} {v:Value} {xs:List Value} {S:Sq} {s:Sc Rc} (h:CanS w S s) (ho:w.ownsRow base 100 k v n xs) (hg:w.grownBy w' v.ownBlock):CanS w' S s:=by
 have key:∀ b off,s.l ≠ []→s.a=some ⟨b,off,none⟩→w'.heap[b]? = w.heap[b]?:=fun b off hl e=>by
  obtain ⟨b',off',T,cs,h1,h2,h3⟩:=h.ok.2.2 hl
  rw [e] at h1
  cases h1
  refine hg.block b h2.lt ?_
  rcases ho.2 with ⟨rfl,_⟩ | ⟨g',cap,cur,rfl,_,hh,_⟩
  ·simp [Value.ownBlock]
  ·intro c
   have:b=g':=by simpa [Value.ownBlock] using c
   subst this
   unfold Blk at h2
   rw [h2] at hh
   cases hh
   exact h3 rfl
 refine ⟨⟨⟨fun i v hi=>?_,h.ok.1.2⟩,h.ok.2.1,fun hl=>?_⟩,h.can⟩
 ·have hl:s.l ≠ []:=fun c=>by rw [c] at hi;simp [cellsOf] at hi
  obtain ⟨b,off,e,hc⟩:=h.ok.1.1 i v hi
  exact ⟨b,off,e,(World.cell?_of_block (w:=w) (a:=⟨b,off+i,none⟩) (key b off hl e)).trans hc⟩
 ·obtain ⟨b,off,T,cs,h1,h2,h3⟩:=h.ok.2.2 hl
  exact ⟨b,off,T,cs,h1,(key b off hl h1).trans h2,h3⟩
theorem sqOk_app {w w':World} {base k n:Nat} {v:Value} {xs:List Value} {E:Env} {s:SqM} (h:SqOk w E s) (ho:w.ownsRow base 100 k v n xs) (hg:w.grownBy w' v.ownBlock):SqOk w' E s:=⟨can_app h.y ho hg,can_app h.n ho hg,can_app h.o ho hg,h.fine⟩
def EvI (E:Env) (kids:List TmM) (f:TmM→Pr) (W0:World) (v i:Value) (wr:World):Prop :=
 ∃ (k:Nat) (L:List SqM),k≤kids.length∧i=.int .i64 k∧L.map SqM.p=(kids.take k).map f∧wr.ownsRow W0.heap.size 100 3 v k (cellsOf encSq L)∧(∀ s ∈ L,SqOk wr E s)∧Below W0.heap.size W0 wr
theorem formB_op {op num more:Int} {n:Nat} (h:formB op num more n=true):op=1∨op=2∨op=3∨op=4∨op=5∨op=6∨op=7∨op=8∨((op=9∨op=10)∧0<n)∨(op=11∧n=1):=by
 unfold formB at h
 rw [Bool.and_eq_true,Bool.and_eq_true] at h
 obtain ⟨⟨h1,-⟩,-⟩:=h
 by_cases e1:op=1
 ·exact .inl e1
 by_cases e2:op=2
 ·exact .inr (.inl e2)
 by_cases e3:op=3
 ·exact .inr (.inr (.inl e3))
 by_cases e4:op=4
 ·exact .inr (.inr (.inr (.inl e4)))
 by_cases e5:op=5
 ·exact .inr (.inr (.inr (.inr (.inl e5))))
 by_cases e6:op=6
 ·exact .inr (.inr (.inr (.inr (.inr (.inl e6)))))
 by_cases e7:op=7
 ·exact .inr (.inr (.inr (.inr (.inr (.inr (.inl e7))))))
 by_cases e8:op=8
 ·exact .inr (.inr (.inr (.inr (.inr (.inr (.inr (.inl e8)))))))
 rw [if_neg e1,if_neg e2,if_neg e3,if_neg e4,if_neg e5,if_neg e6,if_neg e7,if_neg e8] at h1
 by_cases e9:op=9∨op=10
 ·rw [if_pos e9] at h1
  exact .inr (.inr (.inr (.inr (.inr (.inr (.inr (.inr (.inl ⟨e9,(of_decide_eq_true h1).2⟩))))))))
 ·rw [if_neg e9] at h1
  by_cases e11:op=11
  ·rw [if_pos e11] at h1
   exact .inr (.inr (.inr (.inr (.inr (.inr (.inr (.inr (.inr ⟨e11,(of_decide_eq_true h1).2⟩))))))))
  ·rw [if_neg e11] at h1
   cases h1
theorem atom_any (p:PlM) (op num more:Int) (a:Option Addr) (n c m:Nat) (w:World) (h:PlOk w p) (hf:formB op num more m=true) (h9:op ≠ 9) (h10:op ≠ 10) (h11:op ≠ 11) :
  Calls Tryz.prog 99 #[.agg p.cells.toArray,.agg #[.int .i64 op,.int .i64 num,.int .i64 more,.slice a n c]] w (SqP w p.env (p.env.atom op num more)):=by
 have hop:=formB_op hf
 unfold formB at hf
 unfold Env.atom
 rcases hop with rfl | rfl | rfl | rfl | rfl | rfl | rfl | rfl | ⟨e,_⟩ | ⟨e,_⟩
 ·exact atom_true p num more a n c w h
 ·exact atom_crop p num more a n c w h
 ·exact atom_family p num more a n c w h
 ·exact atom_mark p num more a n c w h
 ·exact atom_zone p num more a n c w h
 ·refine atom_same p num more a n c w h ?_
  simp at hf;omega
 ·refine atom_before p num more a n c w h ?_
  simp at hf;omega
 ·refine atom_known p num more a n c w h ?_
  simp at hf;omega
 ·omega
 ·exact absurd e h11
theorem rest_not (E:Env) (p:Pr) (x y:Int):E.rest p x y↔E.rest p.not x y:=⟨fun h=>⟨h.1,h.2.2,h.2.1⟩,fun h=>⟨h.1,h.2.2,h.2.1⟩⟩
theorem CanS.congr {w:World} {S T:Sq} {s:Sc Rc} (h:CanS w S s) (k:∀ x y,S x y↔T x y):CanS w T s:=⟨h.ok,h.can.congr k⟩
def kidP (E:Env) (op:Int) (k:TmM):Pr:=if op=9 then E.ev k.pl else (E.ev k.pl).not
theorem form_kid {op num more:Int} {kids:List Tm} (h:Tm.form (.mk op num more kids)=true):formB op num more kids.length=true∧∀ k ∈ kids,k.form=true:=by
 rw [Tm.form_mk,Bool.and_eq_true,List.all_eq_true] at h
 exact h
theorem eval_any (p:PlM) (hD:p.env.Dis) (t:TmM):∀ (w:World),PlOk w p→TmOk w t→t.pl.form=true→t.pl.size≤1000 →
  Calls Tryz.prog 53 #[.agg p.cells.toArray,.agg (encTm t).toArray] w (SqP w p.env (p.env.ev t.pl)):=by
 induction t using TmM.ind with
 | h op num more a n c kids ih =>
  intro w h hT hf hs
  rw [TmM.pl_mk] at hf hs ⊢
  obtain ⟨hfo,hfk⟩:=form_kid hf
  rw [Tm.size] at hs
  rw [List.length_map,hT.len] at hfo
  have hkn:n≤999:=by have:=Tm.sizes_len (kids.map TmM.pl);rw [List.length_map,hT.len] at this;omega
  show Calls Tryz.prog _ #[.agg p.cells.toArray,.agg #[.int .i64 op,.int .i64 num,.int .i64 more,.slice a n c]] w _
  have A:=AtW.start w p op num more a n c
  obtain ⟨W,hW⟩:∃ W,((w.alloc (.cells p.cells.toArray 98)).alloc (.cells #[.int .i64 op,.int .i64 num,.int .i64 more,.slice a n c] 24)).alloc (.cells #[.slice none 0 0,.slice none 0 0,.slice none 0 0] 100)=W:=⟨_,rfl⟩
  rw [hW] at A
  have HA:=hid A;have H:=hid h;have HT:=hid hT;have IH:=hid ih;have HFO:=hid hfo;have HFK:=hid hfk;have HN:=hid hT.len;have HD:=hid hD;have HSZ:=hid hs
  have x3:W.cell? ⟨w.heap.size+1,3,none⟩=some (.slice a n c):=A.tm.cell 3
  clear A h hT ih hf hfo hfk hs
  go_enter Tryz.func53,Tryz.ntmps53
  go_wp2
  go_loopw [5,12] (fun v i wr=>EvI p.env kids (kidP p.env op) W v i wr) (fun _ i _=>n - (intOf i).toNat)
  case atStart=>exact ⟨0,[],by omega,rfl,rfl,World.ownsRow_nil _ _ _ _,(fun s hs=>by cases hs),Below.refl _ _⟩
  case round =>
   obtain ⟨k,L,hk,rfl,hL,hown,hsq,hb⟩:=hrel
   have hLk:L.length=k:=by have:=congrArg List.length hL;simp at this;omega
   have OWN:=hid hown;have HB:=hid hb;have HLP:=hid hL;have HSQ:=hid hsq;have HLK:=hid hLk
   have HR:=hid (HA.out.beh hb)
   have xo:wr.cell? ⟨w.heap.size+1,0,none⟩=some (.int .i64 op):=HR.out.tm.cell 0
   have HNN:=HN.out
   clear hown hb hL hsq hLk x3
   by_cases hlt:k<n
   ·have hke:k<kids.length:=by omega
    obtain ⟨b,off,rfl,hbl,hrg⟩:=HT.out.at_ hke
    have HRG:=hid (rangeAt_below hrg (btr HA.out.below HB.out))
    have HMP:=hid (show (kids.take k).map (kidP p.env op)++[kidP p.env op kids[k]]=(kids.take (k+1)).map (kidP p.env op) by rw [List.take_succ_eq_append_getElem hke,List.map_append];rfl)
    have HKF:RowKit.Hid (kids[k].pl.form=true):=HFK.out _ (List.mem_map.2 ⟨_,List.getElem_mem hke,rfl⟩)
    have HIH:RowKit.Hid (∀ W',Below wr.heap.size wr W'→Calls Tryz.prog 53 #[.agg p.cells.toArray,.agg (encTm kids[k]).toArray] W' (SqP W' p.env (p.env.ev kids[k].pl))):=fun W' hW' =>
     IH.out _ (List.getElem_mem hke) W' (H.out.below (btr (btr HA.out.below HB.out) hW')) ((HT.out.kid (List.getElem_mem hke)).beh (btr (btr HA.out.below HB.out) hW')) HKF.out (by
      have h1:=Tm.sizes_mem (List.mem_map.2 ⟨_,List.getElem_mem hke,rfl⟩:kids[k].pl ∈ kids.map TmM.pl)
      have h2:=HSZ.out;omega)
    have HFN:RowKit.Hid (p.env.Fine (p.env.ev kids[k].pl)):=Env.fine HD.out _ HKF.out
    clear hrg
    obtain ⟨kt,hkt⟩:∃ kt,kids[k]=kt:=⟨_,rfl⟩
    rw [hkt] at HRG HMP HKF HIH HFN
    clear hkt
    unfold kidP at HMP
    obtain ⟨op',num',more',a',n',c',kids'⟩:=kt
    dsimp only [encTm] at HRG HIH
    by_cases h9:op=9
    ·subst h9
     rw [if_pos rfl] at HMP
     go_wp2_with (first
      | (refine wpList_load_mid rfl 24 (.tmp 14) rfl b (off+k * 4) rfl [.int .i64 op',.int .i64 num',.int .i64 more',.slice a' n' c'] _ HRG.out Tryz.underlying24 rfl tmInfo ?_)
      | (refine st_new rfl 24 (.tmp 7) (.tmp 15) rfl #[.int .i64 op',.int .i64 num',.int .i64 more',.slice a' n' c'] _ _ rfl rfl tmInfo rfl (tm_one _ _ _ _ _ _) ?_)
      | (refine wpList_load_row rfl 98 (.tmp 2) rfl w.heap.size rfl _ p.cells.toArray _ _ (HR.out.pl.alloc _) Tryz.underlying98 rfl plInfo ?_)
      | (refine wpList_load_row rfl 24 (.tmp 7) rfl wr.heap.size rfl _ #[.int .i64 op',.int .i64 num',.int .i64 more',.slice a' n' c'] _ _ (Blk.new _ _ _) Tryz.underlying24 rfl tmInfo ?_)
      | (go_at_call 53;refine (HIH.out _ Bw.out).mono ?_;rintro e w2 ⟨y,q,o,rfl,hy,hq,ho,hb2⟩;have hq2:Below wr.heap.size wr w2:=btr Bw.out hb2;have y2:w.heap.size+1<w2.heap.size:=(HR.out.beh hq2).tm.lt;have x2:w2.cell? ⟨w.heap.size+1,0,none⟩=some (.int .i64 9):=(HR.out.beh hq2).tm.cell 0;have HY:=hid hy;have HQ:=hid hq;have HO:=hid ho;clear hy hq ho)
      | (refine st_new rfl 100 (.tmp 8) (.tmp 18) rfl #[.slice y.a y.n y.c,.slice q.a q.n q.c,.slice o.a o.n o.c] _ _ rfl rfl sqInfo rfl (sq_one _ _ _ rfl rfl rfl) ?_)
      | (refine wpList_load_row rfl 100 (.tmp 8) rfl w2.heap.size rfl _ #[.slice y.a y.n y.c,.slice q.a q.n q.c,.slice o.a o.n o.c] _ _ (Blk.new _ _ _) Tryz.underlying100 rfl sqInfo ?_)
      | (refine bs_one elSq (by decide) rfl (.tmp 25) rfl #[.slice y.a y.n y.c,.slice q.a q.n q.c,.slice o.a o.n o.c] rfl rfl ?_)
      | (at_builtin;refine app_list elSq rfl _ _ rfl W.heap.size _ k _ rfl (own_keep OWN.out (by (repeat (with_reducible first | assumption | exact Below.refl _ _ | refine bdr ?_ | refine bdn ?_ _ | refine bal ?_ _)))) _ 1 _ (encSq ⟨y,q,o,(p.env.ev (TmM.mk op' num' more' a' n' c' kids').pl)⟩) rfl (by first | exact vw_blk (Blk.fresh (by simp)) | exact vw_blk (Blk.fresh (by simp)).drew) (by simp) rfl (oneC_sq _) (by omega) (by have:=HB.out.size;have:=hq2.size;simp;omega) ?_;intro v2 w4 hown2 hg2 _))
     go_roundw
     case rel =>
      have BK:Below wr.heap.size wr _:=((by (repeat (with_reducible first | assumption | exact Below.refl _ _ | refine bdr ?_ | refine bdn ?_ _ | refine bal ?_ _))):Below wr.heap.size wr ((w2.alloc (.cells #[.slice y.a y.n y.c,.slice q.a q.n q.c,.slice o.a o.n o.c] 100)).alloc (.cells #[.slice y.a y.n y.c,.slice q.a q.n q.c,.slice o.a o.n o.c] 100)))
      have BL:Below w2.heap.size w2 ((w2.alloc (.cells #[.slice y.a y.n y.c,.slice q.a q.n q.c,.slice o.a o.n o.c] 100)).alloc (.cells #[.slice y.a y.n y.c,.slice q.a q.n q.c,.slice o.a o.n o.c] 100)):=(by (repeat (with_reducible first | assumption | exact Below.refl _ _ | refine bdr ?_ | refine bdn ?_ _ | refine bal ?_ _)))
      refine ⟨k+1,L++[⟨y,q,o,(p.env.ev (TmM.mk op' num' more' a' n' c' kids').pl)⟩],by omega,by go_num,?_,?_,?_,below_app (own_keep OWN.out BK) (btr HB.out BK) hg2⟩
      ·rw [List.map_append,HLP.out]
       exact HMP.out
      ·rw [cellsOf_append]
       simpa [cellsOf] using hown2
      ·intro s hs
       refine sqOk_app ?_ (own_keep OWN.out BK) hg2
       rcases List.mem_append.1 hs with hs | hs
       ·exact (HSQ.out s hs).below BK
       ·rw [List.mem_singleton.1 hs]
        exact ⟨HY.out.below BL,HQ.out.below BL,HO.out.below BL,HFN.out⟩
     case measure=>simp [intOf];omega
    ·have b9:((op:Int) == 9)=false:=by simpa using h9
     rw [if_neg h9] at HMP
     go_wp2_with (first
      | (refine wpList_load_mid rfl 24 (.tmp 14) rfl b (off+k * 4) rfl [.int .i64 op',.int .i64 num',.int .i64 more',.slice a' n' c'] _ HRG.out Tryz.underlying24 rfl tmInfo ?_)
      | (refine st_new rfl 24 (.tmp 7) (.tmp 15) rfl #[.int .i64 op',.int .i64 num',.int .i64 more',.slice a' n' c'] _ _ rfl rfl tmInfo rfl (tm_one _ _ _ _ _ _) ?_)
      | (refine wpList_load_row rfl 98 (.tmp 2) rfl w.heap.size rfl _ p.cells.toArray _ _ (HR.out.pl.alloc _) Tryz.underlying98 rfl plInfo ?_)
      | (refine wpList_load_row rfl 24 (.tmp 7) rfl wr.heap.size rfl _ #[.int .i64 op',.int .i64 num',.int .i64 more',.slice a' n' c'] _ _ (Blk.new _ _ _) Tryz.underlying24 rfl tmInfo ?_)
      | (go_at_call 53;refine (HIH.out _ Bw.out).mono ?_;rintro e w2 ⟨y,q,o,rfl,hy,hq,ho,hb2⟩;have hq2:Below wr.heap.size wr w2:=btr Bw.out hb2;have y2:w.heap.size+1<w2.heap.size:=(HR.out.beh hq2).tm.lt;have x2:w2.cell? ⟨w.heap.size+1,0,none⟩=some (.int .i64 op):=(HR.out.beh hq2).tm.cell 0;have HY:=hid hy;have HQ:=hid hq;have HO:=hid ho;clear hy hq ho)
      | (refine st_new rfl 100 (.tmp 8) (.tmp 18) rfl #[.slice y.a y.n y.c,.slice q.a q.n q.c,.slice o.a o.n o.c] _ _ rfl rfl sqInfo rfl (sq_one _ _ _ rfl rfl rfl) ?_)
      | (refine wpList_load_row rfl 100 (.tmp 8) rfl w2.heap.size rfl _ #[.slice y.a y.n y.c,.slice q.a q.n q.c,.slice o.a o.n o.c] _ _ (Blk.new _ _ _) Tryz.underlying100 rfl sqInfo ?_)
      | (go_at_call 97;refine (turned_any y q o _).mono ?_;rintro e w3 ⟨rfl,hb3⟩;have hq3:Below w2.heap.size w2 w3:=btr Bw.out hb3;have HT:=hid ((Blk.new w2 100 #[.slice y.a y.n y.c,.slice q.a q.n q.c,.slice o.a o.n o.c]).below hb3);have hq4:Below wr.heap.size wr (w3.setRow w2.heap.size #[.slice q.a q.n q.c,.slice y.a y.n y.c,.slice o.a o.n o.c]):=below_setRow (btr hq2 hq3) hq2.size _;have hq5:Below w2.heap.size w2 (w3.setRow w2.heap.size #[.slice q.a q.n q.c,.slice y.a y.n y.c,.slice o.a o.n o.c]):=below_setRow hq3 (Nat.le_refl _) _)
      | (refine wpList_store_row rfl 100 (.tmp 8) (.tmp 23) rfl w2.heap.size #[.slice q.a q.n q.c,.slice y.a y.n y.c,.slice o.a o.n o.c] rfl rfl _ _ HT.out sqInfo rfl (sq_one _ _ _ rfl rfl rfl) ?_)
      | (refine wpList_load_row rfl 100 (.tmp 8) rfl w2.heap.size rfl _ #[.slice q.a q.n q.c,.slice y.a y.n y.c,.slice o.a o.n o.c] _ _ (setRow_heap w3 w2.heap.size _ #[.slice q.a q.n q.c,.slice y.a y.n y.c,.slice o.a o.n o.c] _ _ HT.out) Tryz.underlying100 rfl sqInfo ?_)
      | (refine bs_one elSq (by decide) rfl (.tmp 25) rfl #[.slice q.a q.n q.c,.slice y.a y.n y.c,.slice o.a o.n o.c] rfl rfl ?_)
      | (at_builtin;refine app_list elSq rfl _ _ rfl W.heap.size _ k _ rfl (own_keep OWN.out (by (repeat (with_reducible first | assumption | exact Below.refl _ _ | refine bdr ?_ | refine bdn ?_ _ | refine bal ?_ _)))) _ 1 _ (encSq ⟨q,y,o,(p.env.ev (TmM.mk op' num' more' a' n' c' kids').pl).not⟩) rfl (by first | exact vw_blk (Blk.fresh (by simp)) | exact vw_blk (Blk.fresh (by simp)).drew) (by simp) rfl (oneC_sq _) (by omega) (by have:=HB.out.size;have:=hq4.size;simp at this ⊢;omega) ?_;intro v2 w4 hown2 hg2 _))
     go_roundw
     case rel =>
      have BK:Below wr.heap.size wr _:=((by (repeat (with_reducible first | assumption | exact Below.refl _ _ | refine bdr ?_ | refine bdn ?_ _ | refine bal ?_ _))):Below wr.heap.size wr ((w3.setRow w2.heap.size #[.slice q.a q.n q.c,.slice y.a y.n y.c,.slice o.a o.n o.c]).alloc (.cells #[.slice q.a q.n q.c,.slice y.a y.n y.c,.slice o.a o.n o.c] 100)))
      have BL:Below w2.heap.size w2 ((w3.setRow w2.heap.size #[.slice q.a q.n q.c,.slice y.a y.n y.c,.slice o.a o.n o.c]).alloc (.cells #[.slice q.a q.n q.c,.slice y.a y.n y.c,.slice o.a o.n o.c] 100)):=(by (repeat (with_reducible first | assumption | exact Below.refl _ _ | refine bdr ?_ | refine bdn ?_ _ | refine bal ?_ _)))
      refine ⟨k+1,L++[⟨q,y,o,(p.env.ev (TmM.mk op' num' more' a' n' c' kids').pl).not⟩],by omega,by go_num,?_,?_,?_,below_app (own_keep OWN.out BK) (btr HB.out BK) hg2⟩
      ·rw [List.map_append,HLP.out]
       exact HMP.out
      ·rw [cellsOf_append]
       simpa [cellsOf] using hown2
      ·intro s hs
       refine sqOk_app ?_ (own_keep OWN.out BK) hg2
       rcases List.mem_append.1 hs with hs | hs
       ·exact (HSQ.out s hs).below BK
       ·rw [List.mem_singleton.1 hs]
        exact ⟨HQ.out.below BL,HY.out.below BL,(HO.out.below BL).congr (rest_not p.env (p.env.ev (TmM.mk op' num' more' a' n' c' kids').pl)),HFN.out.not⟩
     case measure=>simp [intOf];omega
   ·have hkn':k=n:=by omega
    subst hkn'
    have hmap:L.map SqM.p=kids.map (kidP p.env op):=by rw [HLP.out,List.take_of_length_le (by omega)]
    obtain ⟨la,lc,rfl,-,-,hfm⟩:=own_form OWN.out
    have HLA:=hid hfm
    have HVW:=hid (vw_of_own OWN.out)
    have HPW:=hid (H.out.below (btr HA.out.below HB.out))
    have HEV:=hid (Env.ev_mk p.env op num more (kids.map TmM.pl))
    have z1:wr.cell? ⟨w.heap.size+1,1,none⟩=some (.int .i64 num):=HR.out.tm.cell 1
    clear hfm
    by_cases h9:op=9
    ·subst h9
     have HAND:RowKit.Hid (∀ W',Below wr.heap.size wr W'→Calls Tryz.prog 98 #[.agg p.cells.toArray,.slice la k lc] W' (SqP W' p.env (p.env.ev (.mk 9 num more (kids.map TmM.pl))))):=fun W' hW'=>by
      have:=and_any p la k lc L W' (HPW.out.below hW') (HVW.out.below hW') HLK.out (by omega) fun s hs=>(HSQ.out s hs).below hW'
      rw [hmap] at this
      rw [HEV.out,if_pos rfl,List.map_map]
      exact this
     clear hmap
     go_wp2_with (first
      | (refine wpList_load_row rfl 98 (.tmp 2) rfl w.heap.size rfl _ p.cells.toArray _ _ HR.out.pl Tryz.underlying98 rfl plInfo ?_)
      | (go_at_call 98;refine (HAND.out _ (Below.refl _ _)).mono ?_;rintro e w1 ⟨y,q,o,rfl,hy,hq,ho,hb1⟩;have A1:=hid (HR.out.beh hb1))
      | (refine wpList_store_row rfl 100 (.tmp 4) (.tmp 35) rfl (w.heap.size+1+1) #[.slice y.a y.n y.c,.slice q.a q.n q.c,.slice o.a o.n o.c] rfl rfl _ _ A1.out.sq sqInfo rfl (sq_one _ _ _ rfl rfl rfl) ?_))
     refine bodyPost_ret (results_cell_row rfl _ _ _ _ _ _ _ rfl (setRow_heap w1 (w.heap.size+1+1) _ #[.slice y.a y.n y.c,.slice q.a q.n q.c,.slice o.a o.n o.c] _ _ A1.out.sq) Tryz.underlying100 rfl sqInfo) rfl ?_
     exact sqP_put (W:=W) A1.out.sq hy hq ho A1.out.below (by omega)
    have b9:((op:Int) == 9)=false:=by simpa using h9
    by_cases h10:op=10
    ·subst h10
     have HAND:RowKit.Hid (∀ W',Below wr.heap.size wr W'→Calls Tryz.prog 98 #[.agg p.cells.toArray,.slice la k lc] W' (SqP W' p.env (p.env.ev (.mk 10 num more (kids.map TmM.pl))).not)):=fun W' hW'=>by
      have:=and_any p la k lc L W' (HPW.out.below hW') (HVW.out.below hW') HLK.out (by omega) fun s hs=>(HSQ.out s hs).below hW'
      rw [hmap] at this
      rw [HEV.out,if_neg (by decide),if_pos rfl,List.map_map,List.map_map]
      exact this
     clear hmap
     go_wp2_with (first
      | (refine wpList_load_row rfl 98 (.tmp 2) rfl w.heap.size rfl _ p.cells.toArray _ _ HR.out.pl Tryz.underlying98 rfl plInfo ?_)
      | (go_at_call 98;refine (HAND.out _ (Below.refl _ _)).mono ?_;rintro e w1 ⟨y,q,o,rfl,hy,hq,ho,hb1⟩;have A1:=hid (HR.out.beh hb1))
      | (go_at_call 97;refine (turned_any y q o _).mono ?_;rintro e w3 ⟨rfl,hb3⟩;have A3:=hid (A1.out.beh hb3);have HB3:=hid hb3;clear hb3)
      | (refine wpList_store_row rfl 100 (.tmp 4) (.tmp 41) rfl (w.heap.size+1+1) #[.slice q.a q.n q.c,.slice y.a y.n y.c,.slice o.a o.n o.c] rfl rfl _ _ A3.out.sq sqInfo rfl (sq_one _ _ _ rfl rfl rfl) ?_))
     refine bodyPost_ret (results_cell_row rfl _ _ _ _ _ _ _ rfl (setRow_heap w3 (w.heap.size+1+1) _ #[.slice q.a q.n q.c,.slice y.a y.n y.c,.slice o.a o.n o.c] _ _ A3.out.sq) Tryz.underlying100 rfl sqInfo) rfl ?_
     exact sqP_put (W:=W) A3.out.sq (hq.below HB3.out) (hy.below HB3.out) ((ho.congr (rest_not p.env _)).below HB3.out) A3.out.below (by omega)
    have b10:((op:Int) == 10)=false:=by simpa using h10
    by_cases h11:op=11
    ·subst h11
     have hk1:k=1:=by rcases formB_op HFO.out with h | h | h | h | h | h | h | h | ⟨h | h,_⟩ | ⟨_,h⟩ <;> omega
     subst hk1
     match L,HLK,HVW,HSQ,hmap with
     | [s],HLK,HVW,HSQ,hmap =>
      match kids,HN,hmap,HEV with
      | [kd],HN,hmap,HEV =>
       obtain ⟨g,rfl,-,hgl⟩:∃ g,la=some ⟨g,0,none⟩∧W.heap.size≤g∧g<wr.heap.size:=by
        rcases HLA.out with ⟨_,h,_⟩ | h
        ·omega
        ·exact h
       have hsp:s.p=p.env.ev (.mk 11 num more [kd.pl]):=by
        have h1:=HEV.out
        rw [if_neg (by decide),if_neg (by decide),if_pos rfl] at h1
        have h2:s.p=kidP p.env 11 kd:=by simpa using hmap
        rw [h2]
        exact h1.symm
       have HSP:=hid hsp
       have HSS:=hid (HSQ.out s List.mem_cons_self)
       have HRW:RowKit.Hid (wr.rangeAt g 0 (encSq s)):=fun j v hj=>by
        obtain ⟨b,off,e,hc⟩:=HVW.out j v (by simpa [cellsOf] using hj)
        cases e
        exact hc
       clear hmap hsp
       obtain ⟨y,q,o,pr⟩:=s
       go_wp2_with (first
        | (refine wpList_load_mid rfl 100 (.tmp 45) rfl g 0 rfl [.slice y.a y.n y.c,.slice q.a q.n q.c,.slice o.a o.n o.c] _ HRW.out Tryz.underlying100 rfl sqInfo ?_)
        | (refine wpList_store_row rfl 100 (.tmp 4) (.tmp 46) rfl (w.heap.size+1+1) #[.slice y.a y.n y.c,.slice q.a q.n q.c,.slice o.a o.n o.c] rfl rfl _ _ HR.out.sq sqInfo rfl (sq_one _ _ _ rfl rfl rfl) ?_))
       refine bodyPost_ret (results_cell_row rfl _ _ _ _ _ _ _ rfl (setRow_heap wr (w.heap.size+1+1) _ #[.slice y.a y.n y.c,.slice q.a q.n q.c,.slice o.a o.n o.c] _ _ HR.out.sq) Tryz.underlying100 rfl sqInfo) rfl ?_
       have e:=HSP.out
       show SqP w p.env (p.env.ev (.mk 11 num more [kd.pl])) _ _
       rw [← e]
       exact sqP_put (W:=W) HR.out.sq HSS.out.y HSS.out.n HSS.out.o HR.out.below (by omega)
    have b11:((op:Int) == 11)=false:=by simpa using h11
    have HAT:RowKit.Hid (∀ W',Below wr.heap.size wr W'→Calls Tryz.prog 99 #[.agg p.cells.toArray,.agg #[.int .i64 op,.int .i64 num,.int .i64 more,.slice a k c]] W' (SqP W' p.env (p.env.ev (.mk op num more (kids.map TmM.pl))))):=fun W' hW'=>by
     rw [HEV.out,if_neg h9,if_neg h10,if_neg h11]
     exact atom_any p op num more a k c k W' (HPW.out.below hW') HFO.out h9 h10 h11
    clear hmap
    go_wp2_with (first
     | (refine wpList_load_row rfl 98 (.tmp 2) rfl w.heap.size rfl _ p.cells.toArray _ _ HR.out.pl Tryz.underlying98 rfl plInfo ?_)
     | (refine wpList_load_row rfl 24 (.tmp 3) rfl (w.heap.size+1) rfl _ #[.int .i64 op,.int .i64 num,.int .i64 more,.slice a k c] _ _ HR.out.tm Tryz.underlying24 rfl tmInfo ?_)
     | (go_at_call 99;refine (HAT.out _ (Below.refl _ _)).mono ?_;rintro e w1 ⟨y,q,o,rfl,hy,hq,ho,hb1⟩;have A1:=hid (HR.out.beh hb1))
     | (refine wpList_store_row rfl 100 (.tmp 4) (.tmp 49) rfl (w.heap.size+1+1) #[.slice y.a y.n y.c,.slice q.a q.n q.c,.slice o.a o.n o.c] rfl rfl _ _ A1.out.sq sqInfo rfl (sq_one _ _ _ rfl rfl rfl) ?_))
    refine bodyPost_ret (results_cell_row rfl _ _ _ _ _ _ _ rfl (setRow_heap w1 (w.heap.size+1+1) _ #[.slice y.a y.n y.c,.slice q.a q.n q.c,.slice o.a o.n o.c] _ _ A1.out.sq) Tryz.underlying100 rfl sqInfo) rfl ?_
    exact sqP_put (W:=W) A1.out.sq hy hq ho A1.out.below (by omega)
end Go.Proofs.YtancajcelmhnkaaGreatDoor
