/- The reader of terms: lists and terms. -/
import Derived.Test.YtancajcelmhnkaaGreatDoorGz
import Derived.Test.YtancajcelmhnkaaGreatDoorEval
import Derived.Test.YtancajcelmhnkaaGreatDoorGn
set_option maxRecDepth 100000
set_option maxHeartbeats 4000000
namespace Go.Proofs.YtancajcelmhnkaaGreatDoor
open Go.RowKit Go.Sort Go.Shelf
set_option linter.unusedVariables false
set_option linter.unusedSimpArgs false
theorem TRd.nlt {w:World} {rb nb:Nat} {s:ByteArray} {ws:List ByteArray} (h:TRd w rb nb (s :: ws)):nb<w.heap.size:=by
 obtain ⟨⟨off,c,_,hc,_⟩,_⟩:=h
 exact World.block_lt_of_cell? w _ (hc 0 s rfl)
theorem Kept.setRowN {S:Nat→Prop} {w w':World} {g:Nat} {cs:Array Value} (h:Kept S w w') (hg:w.heap.size≤g):Kept S w (w'.setRow g cs) :=
 ⟨h.os,h.tape,h.output,by simpa [World.setRow] using h.size,fun i hi hn=>(setRow_other _ _ _ _ (by omega)).trans (h.block i hi hn)⟩
theorem TRd.setRow {w:World} {rb nb g:Nat} {ws:List ByteArray} {cs:Array Value} (h:TRd w rb nb ws) (h1:rb ≠ g) (h2:nb ≠ g):TRd (w.setRow g cs) rb nb ws:=by
 obtain ⟨⟨off,c,hb,hc,hl⟩,hn⟩:=h
 exact ⟨⟨off,c,(setRow_other _ _ _ _ h1).trans hb,fun i s hi=>(World.cell?_of_block (w:=w) (a:=⟨nb,off+i,none⟩) (setRow_other _ _ _ _ h2)).trans (hc i s hi),hl⟩,hn⟩
def RdP (w:World) (rb nb:Nat) (t:Tm) (rest:List ByteArray) (e:Ending) (w':World):Prop :=
 ∃ tm:TmM,e=.returned (.agg (encTm tm).toArray)∧tm.pl=t∧TmOk w' tm∧TmFr w.heap.size tm∧TRd w' rb nb rest∧Kept (fun k=>k=rb) w w'
def Reads (t:Tm):Prop:=∀ (w:World) (rb nb:Nat) (rest:List ByteArray),TRd w rb nb (t.words++rest) →
 Calls Tryz.prog 70 #[.pointer (some ⟨rb,0,none⟩)] w (RdP w rb nb t rest)
theorem hole_comm {b g:Nat} (w:World):hole b (hole g w)=hole g (hole b w):=by
 unfold hole
 congr 1
 apply Array.ext_getElem?
 intro i
 by_cases e:b=g
 ·rw [e]
 ·by_cases e1:i=b
  ·subst e1
   by_cases hl:i<w.heap.size
   ·rw [Array.getElem?_setIfInBounds_self_of_lt (by simpa using hl),Array.getElem?_setIfInBounds_ne (Ne.symm e),Array.getElem?_setIfInBounds_self_of_lt (by simpa using hl)]
   ·rw [Array.getElem?_eq_none (by simpa using hl),Array.getElem?_eq_none (by simpa using hl)]
  ·rw [Array.getElem?_setIfInBounds_ne (Ne.symm e1)]
   by_cases e2:i=g
   ·subst e2
    by_cases hl:i<w.heap.size
    ·rw [Array.getElem?_setIfInBounds_self_of_lt (by simpa using hl),Array.getElem?_setIfInBounds_self_of_lt (by simpa using hl)]
    ·rw [Array.getElem?_eq_none (by simpa using hl),Array.getElem?_eq_none (by simpa using hl)]
   ·rw [Array.getElem?_setIfInBounds_ne (Ne.symm e2),Array.getElem?_setIfInBounds_ne (Ne.symm e2),Array.getElem?_setIfInBounds_ne (Ne.symm e1)]
theorem hole_grown {w w':World} {g:Nat} (hg:w.grownBy w' (some g)):Below (hole g w).heap.size (hole g w) (hole g w'):=by
 refine ⟨hg.os,hg.tape,hg.output,by rw [hole_size,hole_size];exact hg.size,fun k hk=>?_⟩
 rw [hole_size] at hk
 by_cases e:k=g
 ·subst e
  rw [hole_self hk,hole_self (Nat.lt_of_lt_of_le hk hg.size)]
 ·rw [hole_at _ e,hole_at _ e]
  exact hg.block k hk (by simpa using e)
theorem hole_new {w w':World} {g:Nat} (hb:Below w.heap.size w w') (hg:w.heap.size≤g):Below w.heap.size w (hole g w') :=
 ⟨hb.os,hb.tape,hb.output,by rw [hole_size];exact hb.size,fun k hk=>(hole_at _ (by omega)).trans (hb.block k hk)⟩
theorem tm_app {w w':World} {v v':Value} {t:TmM} (h0:TmOk w t) (h:∀ g,v.ownBlock=some g→TmOk (hole g w) t) (hg:w.grownBy w' v.ownBlock) (hv:v'.ownBlock=v.ownBlock∨v'.ownBlock=some w.heap.size) :
  TmOk w' t∧∀ g,v'.ownBlock=some g→TmOk (hole g w') t:=by
 cases e:v.ownBlock with
 | none =>
  rw [e] at hg hv
  have hb:Below w.heap.size w w':=⟨hg.os,hg.tape,hg.output,hg.size,fun k hk=>hg.block k hk (by simp)⟩
  refine ⟨h0.beh hb,fun g hgv=>?_⟩
  rcases hv with hv | hv
  ·rw [hv] at hgv;cases hgv
  ·rw [hv] at hgv;cases hgv
   exact h0.beh (hole_new hb (Nat.le_refl _))
 | some g0 =>
  rw [e] at hg hv
  have h1:=(h g0 e).beh (hole_grown hg)
  refine ⟨h1.fill,fun g hgv=>?_⟩
  rcases hv with hv | hv
  ·rw [hv] at hgv;cases hgv
   exact h1
  ·rw [hv] at hgv;cases hgv
   have h2:=(h g0 e).beh (hole_new (hole_grown hg) (g:=w.heap.size) (by rw [hole_size];exact Nat.le_refl _))
   rw [hole_comm] at h2
   exact h2.fill
theorem Kept.grown {S:Nat→Prop} {w0 w w':World} {base k n:Nat} {e:TypeId} {v:Value} {xs:List Value} (h:Kept S w0 w) (ho:w.ownsRow base e k v n xs) (hb:w0.heap.size≤base) (hg:w.grownBy w' v.ownBlock):Kept S w0 w':=by
 refine ⟨hg.os.trans h.os,hg.tape.trans h.tape,hg.output.trans h.output,Nat.le_trans h.size hg.size,fun i hi hn=>(hg.block i (Nat.lt_of_lt_of_le hi h.size) ?_).trans (h.block i hi hn)⟩
 rcases ho.2 with ⟨rfl,_⟩ | ⟨g,cap,cur,rfl,hbg,_⟩
 ·simp [Value.ownBlock]
 ·simp [Value.ownBlock];omega
theorem TRd.grown {w w':World} {rb nb base k n:Nat} {e:TypeId} {v:Value} {xs:List Value} {ws:List ByteArray} (h:TRd w rb nb ws) (ho:w.ownsRow base e k v n xs) (h1:rb<base) (h2:nb<base) (hg:w.grownBy w' v.ownBlock):TRd w' rb nb ws:=by
 have key:∀ b,b<base→b<w.heap.size→w'.heap[b]? = w.heap[b]?:=fun b hb hl=>hg.block b hl (by
  rcases ho.2 with ⟨rfl,_⟩ | ⟨g,cap,cur,rfl,hbg,_⟩
  ·simp [Value.ownBlock]
  ·simp [Value.ownBlock];omega)
 obtain ⟨⟨off,c,hb,hc,hl⟩,hn⟩:=h
 exact ⟨⟨off,c,(key rb h1 hb.lt).trans hb,fun i s hi=>(World.cell?_of_block (w:=w) (a:=⟨nb,off+i,none⟩) (key nb h2 (World.block_lt_of_cell? w _ (hc i s hi)))).trans (hc i s hi),hl⟩,hn⟩
def RlP (w:World) (rb nb:Nat) (kids:List Tm) (rest:List ByteArray) (e:Ending) (w':World):Prop :=
 ∃ (a:Option Addr) (n c:Nat) (L:List TmM),e=.returned (.slice a n c)∧L.map TmM.pl=kids∧Vw w' a (cellsOf encTm L)∧L.length=n∧n≤c∧c≤maxLen∧(a=none→n=0)∧(∀ k ∈ L,TmOk w' k∧TmFr w.heap.size k)∧(∀ g off,a=some ⟨g,off,none⟩→w.heap.size≤g)∧TRd w' rb nb rest∧Kept (fun k=>k=rb) w w'
def RlI (w:World) (rb nb:Nat) (kids:List Tm) (rest:List ByteArray) (v:Value) (wr:World) (k:Nat):Prop :=
 ∃ L:List TmM,k≤kids.length∧L.map TmM.pl=kids.take k∧wr.ownsRow w.heap.size 24 4 v k (cellsOf encTm L)∧(∀ t ∈ L,TmOk wr t∧TmFr w.heap.size t∧∀ g,v.ownBlock=some g→TmOk (hole g wr) t)∧TRd wr rb nb ((kids.drop k).flatMap Tm.words++wClose :: rest)∧Kept (fun k=>k=rb) w wr
theorem opWord_close2 (op:Int):((opWord op).toList == [41])=false:=by
 unfold opWord
 repeat' split
 all_goals decide +kernel
def slLen:Value→Nat
 | .slice _ n _=>n
 | _=>0
theorem own_ge {w:World} {base k n:Nat} {e:TypeId} {v:Value} {xs:List Value} (ho:w.ownsRow base e k v n xs):∀ g,v.ownBlock=some g→base≤g:=by
 rcases ho.2 with ⟨rfl,_⟩ | ⟨g,cap,cur,rfl,hbg,_⟩
 ·intro g h;simp [Value.ownBlock] at h
 ·intro g' h;simp [Value.ownBlock] at h;omega
theorem tmOk_kept {w w':World} {rb base:Nat} {t:TmM} (h:TmOk w t) (hf:TmFr base t) (hk:Kept (fun k=>k=rb) w w') (hr:rb<base):TmOk w' t :=
 h.far (fun g h1 h2=>hk.block g h2 (by show ¬ g=rb;omega)) hf
theorem tmOk_keptH {w w':World} {g rb base:Nat} {t:TmM} (h:TmOk (hole g w) t) (hf:TmFr base t) (hk:Kept (fun k=>k=rb) w w') (hr:rb<base):TmOk (hole g w') t :=
 h.far (fun k h1 h2=>by
  rw [hole_size] at h2
  by_cases e:k=g
  ·subst e;rw [hole_self h2,hole_self (Nat.lt_of_lt_of_le h2 hk.size)]
  ·rw [hole_at _ e,hole_at _ e];exact hk.block k h2 (by show ¬ k=rb;omega)) hf
theorem TRd.first {w:World} {rb nb:Nat} {s:ByteArray} {ws:List ByteArray} (h:TRd w rb nb (s :: ws)):∃ off n c,w.cell? ⟨rb,0,none⟩=some (.slice (some ⟨nb,off,none⟩) (n+1) c)∧w.cell? ⟨rb,1,none⟩=some (.bool false)∧w.cell? ⟨nb,off,none⟩=some (.string s)∧n+1≤c∧c≤1000000000:=by
 obtain ⟨⟨off,c,hb,hc,hl,hm⟩,_⟩:=h
 exact ⟨off,ws.length,c,hb.cell 0,hb.cell 1,hc 0 s rfl,by simpa using hl,hm⟩
theorem tlist_any (kids:List Tm) (ih:∀ k ∈ kids,Reads k) (hn:kids.length≤1000) (w:World) (rb nb:Nat) (rest:List ByteArray) (h:TRd w rb nb (wOpen :: (kids.flatMap Tm.words++wClose :: rest))) :
  Calls Tryz.prog 113 #[.pointer (some ⟨rb,0,none⟩)] w (RlP w rb nb kids rest):=by
 have hrl:=h.lt
 have hnl:=h.nlt
 have IH:=hid ih
 have HW:=hid (tword_any w rb nb ⟨#[40]⟩ _ h)
 clear h ih
 go_enter Tryz.func113,Tryz.ntmps113
 go_wp2_with (go_at_call 110;refine HW.out.mono ?_;rintro e w1 ⟨rfl,hr,hk⟩;have R1:=hid hr;have K1:=hid hk;clear hr hk)
 go_loopw [3] (fun v wr=>∃ k,RlI w rb nb kids rest v wr k) (fun v _=>kids.length - slLen v)
 case atStart=>exact ⟨0,[],Nat.zero_le _,rfl,World.ownsRow_nil _ _ _ _,(fun t ht=>by cases ht),R1.out,K1.out⟩
 case round =>
  obtain ⟨k,L,hk,hL,hown,hok,hr,hkp⟩:=hrel
  have OWN:=hid hown;have HL:=hid hL;have OK:=hid hok;have KP:=hid hkp
  have hLk:L.length=k:=by have:=congrArg List.length hL;simp at this;omega
  have yb:=hkp.size
  obtain ⟨a0,c0,rfl,hc1,hc2,hc3⟩:=own_form hown
  have HC3:=hid hc3
  clear hown hL hok hkp hc3
  by_cases hlt:k<kids.length
  ·have hd:kids.drop k=kids[k] :: kids.drop (k+1):=List.drop_eq_getElem_cons hlt
   obtain ⟨tl,htl⟩:=Tm.words_cons kids[k]
   have hr':TRd wr rb nb (kids[k].words++((kids.drop (k+1)).flatMap Tm.words++wClose :: rest)):=by
    rw [hd,List.flatMap_cons,List.append_assoc] at hr
    exact hr
   have HT:=hid (IH.out _ (List.getElem_mem hlt) wr rb nb _ hr')
   rw [htl] at hr'
   obtain ⟨off,m,c,x0,x1,x2,x3,x4⟩:=hr'.first
   have hcl:=opWord_close2 kids[k].op
   have HTK:=hid (List.take_succ_eq_append_getElem hlt)
   clear hr hr' htl hd
   obtain ⟨kd,hkd⟩:∃ kd,kids[k]=kd:=⟨_,rfl⟩
   rw [hkd] at HT hcl x2 HTK
   obtain ⟨sw,hsw⟩:∃ sw,opWord kd.op=sw:=⟨_,rfl⟩
   rw [hsw] at hcl x2
   clear hkd hsw
   go_wp2_with (first
    | (go_at_call 70;refine HT.out.mono ?_;rintro e w2 ⟨⟨op',num',more',a',n',c',kids'⟩,rfl,hpl,hok2,hfr2,hr2,hk2⟩;have HPL:=hid hpl;have OK2:=hid hok2;have FR2:=hid hfr2;have R2:=hid hr2;have K2:=hid hk2;have OW2:=hid (Kept.own hk2 OWN.out (fun g hg=>by have:=own_ge OWN.out g hg;show ¬ g=rb;omega));have y2:=hk2.size;dsimp only [encTm];clear hpl hok2 hfr2 hr2 hk2)
    | (refine bs_one elTm (by decide) rfl (.tmp 35) rfl #[.int .i64 op',.int .i64 num',.int .i64 more',.slice a' n' c'] rfl rfl ?_)
    | (at_builtin;refine app_list elTm rfl _ _ rfl w.heap.size _ k (cellsOf encTm L) rfl (own_keep OW2.out Bw.out) _ 1 _ (encTm (.mk op' num' more' a' n' c' kids')) rfl (by first | exact vw_blk (Blk.fresh (by simp)) | exact vw_blk (Blk.fresh (by simp)).drew) (by simp) rfl (by intro u hu;simp [encTm] at hu;rcases hu with rfl | rfl | rfl | rfl <;> rfl) (by omega) (by simp;omega) ?_;intro v2 w4 hown2 hg2 hv2))
   go_roundw
   case rel =>
    have BA:Below w2.heap.size w2 (w2.alloc (.cells #[.int .i64 op',.int .i64 num',.int .i64 more',.slice a' n' c'] 24)):=Bw.out
    have OWA:=own_keep OW2.out BA
    refine ⟨k+1,L++[.mk op' num' more' a' n' c' kids'],by omega,?_,?_,?_,?_,?_⟩
    ·rw [List.map_append,HL.out,HTK.out]
     simpa using HPL.out
    ·rw [cellsOf_append]
     simpa [cellsOf] using hown2
    ·intro t ht
     have key:TmOk (w2.alloc (.cells #[.int .i64 op',.int .i64 num',.int .i64 more',.slice a' n' c'] 24)) t∧TmFr w.heap.size t∧∀ g,(Value.slice a0 k c0).ownBlock=some g→TmOk (hole g (w2.alloc (.cells #[.int .i64 op',.int .i64 num',.int .i64 more',.slice a' n' c'] 24))) t:=by
      rcases List.mem_append.1 ht with ht | ht
      ·obtain ⟨q1,q2,q3⟩:=OK.out t ht
       refine ⟨(tmOk_kept q1 q2 K2.out hrl).beh BA,q2,fun g hg=>?_⟩
       have h1:=tmOk_keptH (q3 g hg) q2 K2.out hrl
       by_cases hgl:g<w2.heap.size
       ·exact h1.beh (hole_below BA hgl)
       ·rw [hole_out (by omega)] at h1
        exact h1.beh (hole_new BA (by omega))
      ·rw [List.mem_singleton.1 ht]
       refine ⟨OK2.out.beh BA,FR2.out.le yb,fun g hg=>?_⟩
       have hgl:g<wr.heap.size:=by
        rcases OWN.out.2 with ⟨h0,_⟩ | ⟨g',cap,cur,h0,_,hh,_⟩
        ·rw [h0] at hg;simp [Value.ownBlock] at hg
        ·rw [h0] at hg;simp [Value.ownBlock] at hg;subst hg;exact lt_of_block hh
       exact (OK2.out.holedF FR2.out hgl).beh (hole_below BA (by omega))
     obtain ⟨k1,k2,k3⟩:=key
     have:=tm_app k1 k3 hg2 hv2
     exact ⟨this.1,k2,this.2⟩
    ·exact (R2.out.behind BA).grown OWA hrl hnl hg2
    ·exact ((KP.out.trans K2.out fun _ _ c=>c).behind BA).grown OWA (Nat.le_refl _) hg2
   case measure =>
    obtain ⟨a5,c5,rfl,-,-,-⟩:=own_form hown2
    simp [slLen];omega
  ·obtain rfl:k=kids.length:=by omega
   rw [List.drop_length] at hr
   have hr':TRd wr rb nb (⟨#[41]⟩ :: rest):=hr
   have HTW:=hid (tword_any wr rb nb ⟨#[41]⟩ rest hr')
   obtain ⟨off,m,c,x0,x1,x2,x3,x4⟩:=hr'.first
   clear hr hr'
   go_wp2_with (go_at_call 110;refine HTW.out.mono ?_;rintro e w2 ⟨rfl,hr2,hk2⟩;have R2:=hid hr2;have K2:=hid hk2;clear hr2 hk2)
   go_ret
   have hne:∀ g,(Value.slice a0 kids.length c0).ownBlock=some g→¬ g=rb:=fun g hg=>by have:=own_ge OWN.out g hg;omega
   refine ⟨a0,kids.length,c0,L,rfl,?_,vw_of_own (Kept.own K2.out OWN.out hne),hLk,hc1,hc2,?_,fun t ht=>?_,?_,R2.out,KP.out.trans K2.out fun _ _ c=>c⟩
   ·rw [HL.out,List.take_length]
   ·intro e
    rcases HC3.out with ⟨-,h,-⟩ | ⟨g,h,-⟩
    ·exact h
    ·rw [e] at h;cases h
   ·obtain ⟨q1,q2,-⟩:=OK.out t ht
    exact ⟨tmOk_kept q1 q2 K2.out hrl,q2⟩
   ·intro g off e
    rcases HC3.out with ⟨h,-⟩ | ⟨g',h,h',-⟩
    ·rw [h] at e;cases e
    ·rw [h] at e;cases e;exact h'
theorem reads_1 (num more:Int) (hf:formB 1 num more 0=true):Reads (.mk 1 num more []):=by
 intro w rb nb rest h
 rw [Tm.words_mk] at h
 obtain ⟨rfl,rfl⟩:num=0∧more=0:=by simp [formB] at hf;exact hf
 have h':TRd w rb nb (⟨#[116,114,117,101]⟩ :: rest):=h
 have hrl:=h.lt
 have hnl:nb<w.heap.size:=h'.nlt
 clear h hf
 obtain ⟨W,hW⟩:∃ W,w.alloc (.cells #[.int .i64 0,.int .i64 0,.int .i64 0,.slice none 0 0] 24)=W:=⟨_,rfl⟩
 have B0:RowKit.Hid (Blk W w.heap.size 24 #[.int .i64 0,.int .i64 0,.int .i64 0,.slice none 0 0]):=by show Blk _ _ _ _;rw [← hW];exact Blk.new w _ _
 have BB:RowKit.Hid (Below w.heap.size w W):=by show Below _ _ _;rw [← hW];exact Bw.out
 have HR:=hid (h'.behind BB.out)
 have HK:=hid (Kept.below (S:=fun k=>k=rb) BB.out)
 clear h'
 go_enter Tryz.func70,Tryz.ntmps70
 go_wp2_with (first
  | (go_at_call 110;refine (tword_any W rb nb ⟨#[116,114,117,101]⟩ _ HR.out).mono ?_;rintro e w1 ⟨rfl,hr,hk⟩;have R1:=hid hr;have K1:=hid (HK.out.trans hk fun _ _ c=>c);have B1:=hid (hk.blk B0.out (by show ¬ _=rb;omega));clear hr hk)
  | (refine wpList_store_row rfl 24 (.tmp 2) (.tmp 7) rfl w.heap.size #[.int .i64 1,.int .i64 0,.int .i64 0,.slice none 0 0] rfl rfl _ _ B1.out tmInfo rfl (tm_one _ _ _ _ _ _) ?_))
 have BR:=setRow_heap w1 w.heap.size _ #[.int .i64 1,.int .i64 0,.int .i64 0,.slice none 0 0] _ _ B1.out
 refine bodyPost_ret (results_cell_row rfl _ _ _ _ _ _ _ rfl BR Tryz.underlying24 rfl tmInfo) rfl ?_
 refine ⟨.mk 1 0 0 none 0 0 [],rfl,rfl,.mk _ _ _ _ _ _ _ (fun i v hi=>by simp [cellsOf] at hi) rfl (Nat.le_refl _) (by decide) (fun _=>rfl) (fun k hk=>by cases hk),.mk _ _ _ _ _ _ _ (fun g off e=>by cases e) (fun k hk=>by cases hk),R1.out.setRow (by omega) (by omega),K1.out.setRowN (Nat.le_refl _)⟩
theorem reads_2 (num more:Int) (hf:formB 2 num more 0=true):Reads (.mk 2 num more []):=by
 intro w rb nb rest h
 rw [Tm.words_mk] at h
 obtain ⟨⟨h1,h2⟩,rfl⟩:(0≤num∧num≤39)∧more=0:=by simp [formB] at hf;exact hf
 have h':TRd w rb nb (⟨#[99,114,111,112]⟩ :: numWord num :: rest):=h
 have hrl:=h.lt
 have hnl:nb<w.heap.size:=h'.nlt
 clear h hf
 obtain ⟨W,hW⟩:∃ W,w.alloc (.cells #[.int .i64 0,.int .i64 0,.int .i64 0,.slice none 0 0] 24)=W:=⟨_,rfl⟩
 have B0:RowKit.Hid (Blk W w.heap.size 24 #[.int .i64 0,.int .i64 0,.int .i64 0,.slice none 0 0]):=by show Blk _ _ _ _;rw [← hW];exact Blk.new w _ _
 have BB:RowKit.Hid (Below w.heap.size w W):=by show Below _ _ _;rw [← hW];exact Bw.out
 have HR:=hid (h'.behind BB.out)
 have HK:=hid (Kept.below (S:=fun k=>k=rb) BB.out)
 clear h'
 go_enter Tryz.func70,Tryz.ntmps70
 go_wp2_with (first
  | (go_at_call 110;refine (tword_any W rb nb ⟨#[99,114,111,112]⟩ _ HR.out).mono ?_;rintro e w1 ⟨rfl,hr,hk⟩;have R1:=hid hr;have K1:=hid (HK.out.trans hk fun _ _ c=>c);have B1:=hid (hk.blk B0.out (by show ¬ _=rb;omega));clear hr hk)
  | (go_at_call 111;refine (tnumber_any w1 rb nb num _ R1.out (by omega) (by omega)).mono ?_;rintro e w2 ⟨rfl,hr,hk⟩;have R2:=hid hr;have K2:=hid (K1.out.trans hk fun _ _ c=>c);have B2:=hid (hk.blk B1.out (by show ¬ _=rb;omega));clear hr hk)
  | (refine wpList_store_row rfl 24 (.tmp 2) (.tmp 12) rfl w.heap.size #[.int .i64 2,.int .i64 num,.int .i64 0,.slice none 0 0] rfl rfl _ _ B2.out tmInfo rfl (tm_one _ _ _ _ _ _) ?_))
 have BR:=setRow_heap w2 w.heap.size _ #[.int .i64 2,.int .i64 num,.int .i64 0,.slice none 0 0] _ _ B2.out
 refine bodyPost_ret (results_cell_row rfl _ _ _ _ _ _ _ rfl BR Tryz.underlying24 rfl tmInfo) rfl ?_
 refine ⟨.mk 2 num 0 none 0 0 [],rfl,rfl,.mk _ _ _ _ _ _ _ (fun i v hi=>by simp [cellsOf] at hi) rfl (Nat.le_refl _) (by decide) (fun _=>rfl) (fun k hk=>by cases hk),.mk _ _ _ _ _ _ _ (fun g off e=>by cases e) (fun k hk=>by cases hk),R2.out.setRow (by omega) (by omega),K2.out.setRowN (Nat.le_refl _)⟩
theorem reads_3 (num more:Int) (hf:formB 3 num more 0=true):Reads (.mk 3 num more []):=by
 intro w rb nb rest h
 rw [Tm.words_mk] at h
 obtain ⟨⟨h1,h2⟩,rfl⟩:(0≤num∧num≤40)∧more=0:=by simp [formB] at hf;exact hf
 have h':TRd w rb nb (⟨#[102,97,109,105,108,121]⟩ :: numWord num :: rest):=h
 have hrl:=h.lt
 have hnl:nb<w.heap.size:=h'.nlt
 clear h hf
 obtain ⟨W,hW⟩:∃ W,w.alloc (.cells #[.int .i64 0,.int .i64 0,.int .i64 0,.slice none 0 0] 24)=W:=⟨_,rfl⟩
 have B0:RowKit.Hid (Blk W w.heap.size 24 #[.int .i64 0,.int .i64 0,.int .i64 0,.slice none 0 0]):=by show Blk _ _ _ _;rw [← hW];exact Blk.new w _ _
 have BB:RowKit.Hid (Below w.heap.size w W):=by show Below _ _ _;rw [← hW];exact Bw.out
 have HR:=hid (h'.behind BB.out)
 have HK:=hid (Kept.below (S:=fun k=>k=rb) BB.out)
 clear h'
 go_enter Tryz.func70,Tryz.ntmps70
 go_wp2_with (first
  | (go_at_call 110;refine (tword_any W rb nb ⟨#[102,97,109,105,108,121]⟩ _ HR.out).mono ?_;rintro e w1 ⟨rfl,hr,hk⟩;have R1:=hid hr;have K1:=hid (HK.out.trans hk fun _ _ c=>c);have B1:=hid (hk.blk B0.out (by show ¬ _=rb;omega));clear hr hk)
  | (go_at_call 111;refine (tnumber_any w1 rb nb num _ R1.out (by omega) (by omega)).mono ?_;rintro e w2 ⟨rfl,hr,hk⟩;have R2:=hid hr;have K2:=hid (K1.out.trans hk fun _ _ c=>c);have B2:=hid (hk.blk B1.out (by show ¬ _=rb;omega));clear hr hk)
  | (refine wpList_store_row rfl 24 (.tmp 2) (.tmp 17) rfl w.heap.size #[.int .i64 3,.int .i64 num,.int .i64 0,.slice none 0 0] rfl rfl _ _ B2.out tmInfo rfl (tm_one _ _ _ _ _ _) ?_))
 have BR:=setRow_heap w2 w.heap.size _ #[.int .i64 3,.int .i64 num,.int .i64 0,.slice none 0 0] _ _ B2.out
 refine bodyPost_ret (results_cell_row rfl _ _ _ _ _ _ _ rfl BR Tryz.underlying24 rfl tmInfo) rfl ?_
 refine ⟨.mk 3 num 0 none 0 0 [],rfl,rfl,.mk _ _ _ _ _ _ _ (fun i v hi=>by simp [cellsOf] at hi) rfl (Nat.le_refl _) (by decide) (fun _=>rfl) (fun k hk=>by cases hk),.mk _ _ _ _ _ _ _ (fun g off e=>by cases e) (fun k hk=>by cases hk),R2.out.setRow (by omega) (by omega),K2.out.setRowN (Nat.le_refl _)⟩
theorem reads_4 (num more:Int) (hf:formB 4 num more 0=true):Reads (.mk 4 num more []):=by
 intro w rb nb rest h
 rw [Tm.words_mk] at h
 obtain ⟨hm,rfl⟩:oneMark num=true∧more=0:=by simp [formB] at hf;exact hf
 have h':TRd w rb nb (⟨#[109,97,114,107]⟩ :: markWord num :: rest):=h
 have hrl:=h.lt
 have hnl:nb<w.heap.size:=h'.nlt
 clear h hf
 obtain ⟨W,hW⟩:∃ W,w.alloc (.cells #[.int .i64 0,.int .i64 0,.int .i64 0,.slice none 0 0] 24)=W:=⟨_,rfl⟩
 have B0:RowKit.Hid (Blk W w.heap.size 24 #[.int .i64 0,.int .i64 0,.int .i64 0,.slice none 0 0]):=by show Blk _ _ _ _;rw [← hW];exact Blk.new w _ _
 have BB:RowKit.Hid (Below w.heap.size w W):=by show Below _ _ _;rw [← hW];exact Bw.out
 have HR:=hid (h'.behind BB.out)
 have HK:=hid (Kept.below (S:=fun k=>k=rb) BB.out)
 clear h'
 go_enter Tryz.func70,Tryz.ntmps70
 go_wp2_with (first
  | (go_at_call 110;refine (tword_any W rb nb ⟨#[109,97,114,107]⟩ _ HR.out).mono ?_;rintro e w1 ⟨rfl,hr,hk⟩;have R1:=hid hr;have K1:=hid (HK.out.trans hk fun _ _ c=>c);have B1:=hid (hk.blk B0.out (by show ¬ _=rb;omega));clear hr hk)
  | (go_at_call 112;refine (tmark_any w1 rb nb num _ R1.out hm).mono ?_;rintro e w2 ⟨rfl,hr,hk⟩;have R2:=hid hr;have K2:=hid (K1.out.trans hk fun _ _ c=>c);have B2:=hid (hk.blk B1.out (by show ¬ _=rb;omega));clear hr hk)
  | (refine wpList_store_row rfl 24 (.tmp 2) (.tmp 22) rfl w.heap.size #[.int .i64 4,.int .i64 num,.int .i64 0,.slice none 0 0] rfl rfl _ _ B2.out tmInfo rfl (tm_one _ _ _ _ _ _) ?_))
 have BR:=setRow_heap w2 w.heap.size _ #[.int .i64 4,.int .i64 num,.int .i64 0,.slice none 0 0] _ _ B2.out
 refine bodyPost_ret (results_cell_row rfl _ _ _ _ _ _ _ rfl BR Tryz.underlying24 rfl tmInfo) rfl ?_
 refine ⟨.mk 4 num 0 none 0 0 [],rfl,rfl,.mk _ _ _ _ _ _ _ (fun i v hi=>by simp [cellsOf] at hi) rfl (Nat.le_refl _) (by decide) (fun _=>rfl) (fun k hk=>by cases hk),.mk _ _ _ _ _ _ _ (fun g off e=>by cases e) (fun k hk=>by cases hk),R2.out.setRow (by omega) (by omega),K2.out.setRowN (Nat.le_refl _)⟩
theorem reads_5 (num more:Int) (hf:formB 5 num more 0=true):Reads (.mk 5 num more []):=by
 intro w rb nb rest h
 rw [Tm.words_mk] at h
 obtain ⟨⟨h1,h2⟩,rfl⟩:(0≤num∧num≤15)∧more=0:=by simp [formB] at hf;exact hf
 have h':TRd w rb nb (⟨#[122,111,110,101]⟩ :: numWord num :: rest):=h
 have hrl:=h.lt
 have hnl:nb<w.heap.size:=h'.nlt
 clear h hf
 obtain ⟨W,hW⟩:∃ W,w.alloc (.cells #[.int .i64 0,.int .i64 0,.int .i64 0,.slice none 0 0] 24)=W:=⟨_,rfl⟩
 have B0:RowKit.Hid (Blk W w.heap.size 24 #[.int .i64 0,.int .i64 0,.int .i64 0,.slice none 0 0]):=by show Blk _ _ _ _;rw [← hW];exact Blk.new w _ _
 have BB:RowKit.Hid (Below w.heap.size w W):=by show Below _ _ _;rw [← hW];exact Bw.out
 have HR:=hid (h'.behind BB.out)
 have HK:=hid (Kept.below (S:=fun k=>k=rb) BB.out)
 clear h'
 go_enter Tryz.func70,Tryz.ntmps70
 go_wp2_with (first
  | (go_at_call 110;refine (tword_any W rb nb ⟨#[122,111,110,101]⟩ _ HR.out).mono ?_;rintro e w1 ⟨rfl,hr,hk⟩;have R1:=hid hr;have K1:=hid (HK.out.trans hk fun _ _ c=>c);have B1:=hid (hk.blk B0.out (by show ¬ _=rb;omega));clear hr hk)
  | (go_at_call 111;refine (tnumber_any w1 rb nb num _ R1.out (by omega) (by omega)).mono ?_;rintro e w2 ⟨rfl,hr,hk⟩;have R2:=hid hr;have K2:=hid (K1.out.trans hk fun _ _ c=>c);have B2:=hid (hk.blk B1.out (by show ¬ _=rb;omega));clear hr hk)
  | (refine wpList_store_row rfl 24 (.tmp 2) (.tmp 27) rfl w.heap.size #[.int .i64 5,.int .i64 num,.int .i64 0,.slice none 0 0] rfl rfl _ _ B2.out tmInfo rfl (tm_one _ _ _ _ _ _) ?_))
 have BR:=setRow_heap w2 w.heap.size _ #[.int .i64 5,.int .i64 num,.int .i64 0,.slice none 0 0] _ _ B2.out
 refine bodyPost_ret (results_cell_row rfl _ _ _ _ _ _ _ rfl BR Tryz.underlying24 rfl tmInfo) rfl ?_
 refine ⟨.mk 5 num 0 none 0 0 [],rfl,rfl,.mk _ _ _ _ _ _ _ (fun i v hi=>by simp [cellsOf] at hi) rfl (Nat.le_refl _) (by decide) (fun _=>rfl) (fun k hk=>by cases hk),.mk _ _ _ _ _ _ _ (fun g off e=>by cases e) (fun k hk=>by cases hk),R2.out.setRow (by omega) (by omega),K2.out.setRowN (Nat.le_refl _)⟩
theorem reads_6 (num more:Int) (hf:formB 6 num more 0=true):Reads (.mk 6 num more []):=by
 intro w rb nb rest h
 rw [Tm.words_mk] at h
 obtain ⟨⟨h1,h2⟩,rfl⟩:(2≤num∧num≤10)∧more=0:=by simp [formB] at hf;exact hf
 have h':TRd w rb nb (⟨#[115,97,109,101]⟩ :: numWord num :: rest):=h
 have hrl:=h.lt
 have hnl:nb<w.heap.size:=h'.nlt
 clear h hf
 obtain ⟨W,hW⟩:∃ W,w.alloc (.cells #[.int .i64 0,.int .i64 0,.int .i64 0,.slice none 0 0] 24)=W:=⟨_,rfl⟩
 have B0:RowKit.Hid (Blk W w.heap.size 24 #[.int .i64 0,.int .i64 0,.int .i64 0,.slice none 0 0]):=by show Blk _ _ _ _;rw [← hW];exact Blk.new w _ _
 have BB:RowKit.Hid (Below w.heap.size w W):=by show Below _ _ _;rw [← hW];exact Bw.out
 have HR:=hid (h'.behind BB.out)
 have HK:=hid (Kept.below (S:=fun k=>k=rb) BB.out)
 clear h'
 go_enter Tryz.func70,Tryz.ntmps70
 go_wp2_with (first
  | (go_at_call 110;refine (tword_any W rb nb ⟨#[115,97,109,101]⟩ _ HR.out).mono ?_;rintro e w1 ⟨rfl,hr,hk⟩;have R1:=hid hr;have K1:=hid (HK.out.trans hk fun _ _ c=>c);have B1:=hid (hk.blk B0.out (by show ¬ _=rb;omega));clear hr hk)
  | (go_at_call 111;refine (tnumber_any w1 rb nb num _ R1.out (by omega) (by omega)).mono ?_;rintro e w2 ⟨rfl,hr,hk⟩;have R2:=hid hr;have K2:=hid (K1.out.trans hk fun _ _ c=>c);have B2:=hid (hk.blk B1.out (by show ¬ _=rb;omega));clear hr hk)
  | (refine wpList_store_row rfl 24 (.tmp 2) (.tmp 32) rfl w.heap.size #[.int .i64 6,.int .i64 num,.int .i64 0,.slice none 0 0] rfl rfl _ _ B2.out tmInfo rfl (tm_one _ _ _ _ _ _) ?_))
 have BR:=setRow_heap w2 w.heap.size _ #[.int .i64 6,.int .i64 num,.int .i64 0,.slice none 0 0] _ _ B2.out
 refine bodyPost_ret (results_cell_row rfl _ _ _ _ _ _ _ rfl BR Tryz.underlying24 rfl tmInfo) rfl ?_
 refine ⟨.mk 6 num 0 none 0 0 [],rfl,rfl,.mk _ _ _ _ _ _ _ (fun i v hi=>by simp [cellsOf] at hi) rfl (Nat.le_refl _) (by decide) (fun _=>rfl) (fun k hk=>by cases hk),.mk _ _ _ _ _ _ _ (fun g off e=>by cases e) (fun k hk=>by cases hk),R2.out.setRow (by omega) (by omega),K2.out.setRowN (Nat.le_refl _)⟩
theorem reads_7 (num more:Int) (hf:formB 7 num more 0=true):Reads (.mk 7 num more []):=by
 intro w rb nb rest h
 rw [Tm.words_mk] at h
 obtain ⟨⟨h1,h2⟩,hm⟩:(1≤num∧num≤10)∧oneMark more=true:=by simp [formB] at hf;exact hf
 have h':TRd w rb nb (⟨#[98,101,102,111,114,101]⟩ :: numWord num :: markWord more :: rest):=h
 have hrl:=h.lt
 have hnl:nb<w.heap.size:=h'.nlt
 clear h hf
 obtain ⟨W,hW⟩:∃ W,w.alloc (.cells #[.int .i64 0,.int .i64 0,.int .i64 0,.slice none 0 0] 24)=W:=⟨_,rfl⟩
 have B0:RowKit.Hid (Blk W w.heap.size 24 #[.int .i64 0,.int .i64 0,.int .i64 0,.slice none 0 0]):=by show Blk _ _ _ _;rw [← hW];exact Blk.new w _ _
 have BB:RowKit.Hid (Below w.heap.size w W):=by show Below _ _ _;rw [← hW];exact Bw.out
 have HR:=hid (h'.behind BB.out)
 have HK:=hid (Kept.below (S:=fun k=>k=rb) BB.out)
 clear h'
 go_enter Tryz.func70,Tryz.ntmps70
 go_wp2_with (first
  | (go_at_call 110;refine (tword_any W rb nb ⟨#[98,101,102,111,114,101]⟩ _ HR.out).mono ?_;rintro e w1 ⟨rfl,hr,hk⟩;have R1:=hid hr;have K1:=hid (HK.out.trans hk fun _ _ c=>c);have B1:=hid (hk.blk B0.out (by show ¬ _=rb;omega));clear hr hk)
  | (go_at_call 111;refine (tnumber_any w1 rb nb num _ R1.out (by omega) (by omega)).mono ?_;rintro e w2 ⟨rfl,hr,hk⟩;have R2:=hid hr;have K2:=hid (K1.out.trans hk fun _ _ c=>c);have B2:=hid (hk.blk B1.out (by show ¬ _=rb;omega));clear hr hk)
  | (go_at_call 112;refine (tmark_any w2 rb nb more _ R2.out hm).mono ?_;rintro e w3 ⟨rfl,hr,hk⟩;have R3:=hid hr;have K3:=hid (K2.out.trans hk fun _ _ c=>c);have B3:=hid (hk.blk B2.out (by show ¬ _=rb;omega));clear hr hk)
  | (refine wpList_store_row rfl 24 (.tmp 2) (.tmp 39) rfl w.heap.size #[.int .i64 7,.int .i64 num,.int .i64 more,.slice none 0 0] rfl rfl _ _ B3.out tmInfo rfl (tm_one _ _ _ _ _ _) ?_))
 have BR:=setRow_heap w3 w.heap.size _ #[.int .i64 7,.int .i64 num,.int .i64 more,.slice none 0 0] _ _ B3.out
 refine bodyPost_ret (results_cell_row rfl _ _ _ _ _ _ _ rfl BR Tryz.underlying24 rfl tmInfo) rfl ?_
 refine ⟨.mk 7 num more none 0 0 [],rfl,rfl,.mk _ _ _ _ _ _ _ (fun i v hi=>by simp [cellsOf] at hi) rfl (Nat.le_refl _) (by decide) (fun _=>rfl) (fun k hk=>by cases hk),.mk _ _ _ _ _ _ _ (fun g off e=>by cases e) (fun k hk=>by cases hk),R3.out.setRow (by omega) (by omega),K3.out.setRowN (Nat.le_refl _)⟩
theorem reads_8 (num more:Int) (hf:formB 8 num more 0=true):Reads (.mk 8 num more []):=by
 intro w rb nb rest h
 rw [Tm.words_mk] at h
 obtain ⟨⟨h1,h2⟩,rfl⟩:(1≤num∧num≤10)∧more=0:=by simp [formB] at hf;exact hf
 have h':TRd w rb nb (⟨#[107,110,111,119,110]⟩ :: numWord num :: rest):=h
 have hrl:=h.lt
 have hnl:nb<w.heap.size:=h'.nlt
 clear h hf
 obtain ⟨W,hW⟩:∃ W,w.alloc (.cells #[.int .i64 0,.int .i64 0,.int .i64 0,.slice none 0 0] 24)=W:=⟨_,rfl⟩
 have B0:RowKit.Hid (Blk W w.heap.size 24 #[.int .i64 0,.int .i64 0,.int .i64 0,.slice none 0 0]):=by show Blk _ _ _ _;rw [← hW];exact Blk.new w _ _
 have BB:RowKit.Hid (Below w.heap.size w W):=by show Below _ _ _;rw [← hW];exact Bw.out
 have HR:=hid (h'.behind BB.out)
 have HK:=hid (Kept.below (S:=fun k=>k=rb) BB.out)
 clear h'
 go_enter Tryz.func70,Tryz.ntmps70
 go_wp2_with (first
  | (go_at_call 110;refine (tword_any W rb nb ⟨#[107,110,111,119,110]⟩ _ HR.out).mono ?_;rintro e w1 ⟨rfl,hr,hk⟩;have R1:=hid hr;have K1:=hid (HK.out.trans hk fun _ _ c=>c);have B1:=hid (hk.blk B0.out (by show ¬ _=rb;omega));clear hr hk)
  | (go_at_call 111;refine (tnumber_any w1 rb nb num _ R1.out (by omega) (by omega)).mono ?_;rintro e w2 ⟨rfl,hr,hk⟩;have R2:=hid hr;have K2:=hid (K1.out.trans hk fun _ _ c=>c);have B2:=hid (hk.blk B1.out (by show ¬ _=rb;omega));clear hr hk)
  | (refine wpList_store_row rfl 24 (.tmp 2) (.tmp 44) rfl w.heap.size #[.int .i64 8,.int .i64 num,.int .i64 0,.slice none 0 0] rfl rfl _ _ B2.out tmInfo rfl (tm_one _ _ _ _ _ _) ?_))
 have BR:=setRow_heap w2 w.heap.size _ #[.int .i64 8,.int .i64 num,.int .i64 0,.slice none 0 0] _ _ B2.out
 refine bodyPost_ret (results_cell_row rfl _ _ _ _ _ _ _ rfl BR Tryz.underlying24 rfl tmInfo) rfl ?_
 refine ⟨.mk 8 num 0 none 0 0 [],rfl,rfl,.mk _ _ _ _ _ _ _ (fun i v hi=>by simp [cellsOf] at hi) rfl (Nat.le_refl _) (by decide) (fun _=>rfl) (fun k hk=>by cases hk),.mk _ _ _ _ _ _ _ (fun g off e=>by cases e) (fun k hk=>by cases hk),R2.out.setRow (by omega) (by omega),K2.out.setRowN (Nat.le_refl _)⟩
theorem reads_9 (kids:List Tm) (ih:∀ k ∈ kids,Reads k) (hn:kids.length≤1000):Reads (.mk 9 0 0 kids):=by
 intro w rb nb rest h
 rw [Tm.words_mk] at h
 have h':TRd w rb nb (⟨#[97,110,100]⟩ :: (wOpen :: (kids.flatMap Tm.words++wClose :: rest))):=by
  rw [List.cons_append] at h
  simpa [opWord,wAnd,wOr,List.append_assoc] using h
 have hrl:=h.lt
 have hnl:nb<w.heap.size:=h'.nlt
 clear h
 have IH:=hid ih
 clear ih
 obtain ⟨W,hW⟩:∃ W,w.alloc (.cells #[.int .i64 0,.int .i64 0,.int .i64 0,.slice none 0 0] 24)=W:=⟨_,rfl⟩
 have B0:RowKit.Hid (Blk W w.heap.size 24 #[.int .i64 0,.int .i64 0,.int .i64 0,.slice none 0 0]):=by show Blk _ _ _ _;rw [← hW];exact Blk.new w _ _
 have BB:RowKit.Hid (Below w.heap.size w W):=by show Below _ _ _;rw [← hW];exact Bw.out
 have HR:=hid (h'.behind BB.out)
 have HK:=hid (Kept.below (S:=fun k=>k=rb) BB.out)
 have y0:=B0.out.lt
 clear h'
 go_enter Tryz.func70,Tryz.ntmps70
 go_wp2_with (first
  | (go_at_call 110;refine (tword_any W rb nb ⟨#[97,110,100]⟩ _ HR.out).mono ?_;rintro e w1 ⟨rfl,hr,hk⟩;have R1:=hid hr;have K1:=hid (HK.out.trans hk fun _ _ c=>c);have B1:=hid (hk.blk B0.out (by show ¬ _=rb;omega));have y1:=hk.size;clear hr hk)
  | (go_at_call 113;refine (tlist_any kids IH.out hn w1 rb nb rest R1.out).mono ?_;rintro e w2 ⟨a,n,c,L,rfl,l1,l2,l3,l4,l5,l6,l7,l8,hr,hk⟩;have L1:=hid l1;have L2:=hid l2;have L7:=hid l7;have L8:=hid l8;have R2:=hid hr;have K2:=hid (K1.out.trans hk fun _ _ c=>c);have B2:=hid (hk.blk B1.out (by show ¬ _=rb;omega));have L6:=hid l6;have L3:=hid l3;clear l1 l2 l3 l6 l7 l8 hr hk)
  | (refine wpList_store_row rfl 24 (.tmp 2) (.tmp 49) rfl w.heap.size #[.int .i64 9,.int .i64 0,.int .i64 0,.slice a n c] rfl rfl _ _ B2.out tmInfo rfl (tm_one _ _ _ _ _ _) ?_))
 have BR:=setRow_heap w2 w.heap.size _ #[.int .i64 9,.int .i64 0,.int .i64 0,.slice a n c] _ _ B2.out
 refine bodyPost_ret (results_cell_row rfl _ _ _ _ _ _ _ rfl BR Tryz.underlying24 rfl tmInfo) rfl ?_
 have hv:∀ g,w1.heap.size≤g→g<w2.heap.size→(w2.setRow w.heap.size #[.int .i64 9,.int .i64 0,.int .i64 0,.slice a n c]).heap[g]? = w2.heap[g]?:=fun g h1 h2=>setRow_other _ _ _ _ (by omega)
 refine ⟨.mk 9 0 0 a n c L,rfl,by rw [TmM.pl_mk,L1.out],.mk _ _ _ _ _ _ _ (vw_setRow L2.out fun g off e=>by have:=L8.out g off e;omega) L3.out l4 l5 L6.out (fun k hk=>(L7.out k hk).1.far hv (L7.out k hk).2),.mk _ _ _ _ _ _ _ (fun g off e=>by have:=L8.out g off e;omega) (fun k hk=>(L7.out k hk).2.le (by omega)),R2.out.setRow (by omega) (by omega),K2.out.setRowN (Nat.le_refl _)⟩
theorem reads_10 (kids:List Tm) (ih:∀ k ∈ kids,Reads k) (hn:kids.length≤1000):Reads (.mk 10 0 0 kids):=by
 intro w rb nb rest h
 rw [Tm.words_mk] at h
 have h':TRd w rb nb (⟨#[111,114]⟩ :: (wOpen :: (kids.flatMap Tm.words++wClose :: rest))):=by
  rw [List.cons_append] at h
  simpa [opWord,wAnd,wOr,List.append_assoc] using h
 have hrl:=h.lt
 have hnl:nb<w.heap.size:=h'.nlt
 clear h
 have IH:=hid ih
 clear ih
 obtain ⟨W,hW⟩:∃ W,w.alloc (.cells #[.int .i64 0,.int .i64 0,.int .i64 0,.slice none 0 0] 24)=W:=⟨_,rfl⟩
 have B0:RowKit.Hid (Blk W w.heap.size 24 #[.int .i64 0,.int .i64 0,.int .i64 0,.slice none 0 0]):=by show Blk _ _ _ _;rw [← hW];exact Blk.new w _ _
 have BB:RowKit.Hid (Below w.heap.size w W):=by show Below _ _ _;rw [← hW];exact Bw.out
 have HR:=hid (h'.behind BB.out)
 have HK:=hid (Kept.below (S:=fun k=>k=rb) BB.out)
 have y0:=B0.out.lt
 clear h'
 go_enter Tryz.func70,Tryz.ntmps70
 go_wp2_with (first
  | (go_at_call 110;refine (tword_any W rb nb ⟨#[111,114]⟩ _ HR.out).mono ?_;rintro e w1 ⟨rfl,hr,hk⟩;have R1:=hid hr;have K1:=hid (HK.out.trans hk fun _ _ c=>c);have B1:=hid (hk.blk B0.out (by show ¬ _=rb;omega));have y1:=hk.size;clear hr hk)
  | (go_at_call 113;refine (tlist_any kids IH.out hn w1 rb nb rest R1.out).mono ?_;rintro e w2 ⟨a,n,c,L,rfl,l1,l2,l3,l4,l5,l6,l7,l8,hr,hk⟩;have L1:=hid l1;have L2:=hid l2;have L7:=hid l7;have L8:=hid l8;have R2:=hid hr;have K2:=hid (K1.out.trans hk fun _ _ c=>c);have B2:=hid (hk.blk B1.out (by show ¬ _=rb;omega));have L6:=hid l6;have L3:=hid l3;clear l1 l2 l3 l6 l7 l8 hr hk)
  | (refine wpList_store_row rfl 24 (.tmp 2) (.tmp 54) rfl w.heap.size #[.int .i64 10,.int .i64 0,.int .i64 0,.slice a n c] rfl rfl _ _ B2.out tmInfo rfl (tm_one _ _ _ _ _ _) ?_))
 have BR:=setRow_heap w2 w.heap.size _ #[.int .i64 10,.int .i64 0,.int .i64 0,.slice a n c] _ _ B2.out
 refine bodyPost_ret (results_cell_row rfl _ _ _ _ _ _ _ rfl BR Tryz.underlying24 rfl tmInfo) rfl ?_
 have hv:∀ g,w1.heap.size≤g→g<w2.heap.size→(w2.setRow w.heap.size #[.int .i64 10,.int .i64 0,.int .i64 0,.slice a n c]).heap[g]? = w2.heap[g]?:=fun g h1 h2=>setRow_other _ _ _ _ (by omega)
 refine ⟨.mk 10 0 0 a n c L,rfl,by rw [TmM.pl_mk,L1.out],.mk _ _ _ _ _ _ _ (vw_setRow L2.out fun g off e=>by have:=L8.out g off e;omega) L3.out l4 l5 L6.out (fun k hk=>(L7.out k hk).1.far hv (L7.out k hk).2),.mk _ _ _ _ _ _ _ (fun g off e=>by have:=L8.out g off e;omega) (fun k hk=>(L7.out k hk).2.le (by omega)),R2.out.setRow (by omega) (by omega),K2.out.setRowN (Nat.le_refl _)⟩
theorem reads_11 (t:Tm) (ih:Reads t):Reads (.mk 11 0 0 [t]):=by
 intro w rb nb rest h
 rw [Tm.words_mk] at h
 have h':TRd w rb nb (⟨#[110,111,116]⟩ :: (t.words++rest)):=by
  rw [List.cons_append] at h
  simpa [opWord,wNot] using h
 have hrl:=h.lt
 have hnl:nb<w.heap.size:=h'.nlt
 clear h
 have IH:=hid ih
 clear ih
 obtain ⟨W,hW⟩:∃ W,w.alloc (.cells #[.int .i64 0,.int .i64 0,.int .i64 0,.slice none 0 0] 24)=W:=⟨_,rfl⟩
 have B0:RowKit.Hid (Blk W w.heap.size 24 #[.int .i64 0,.int .i64 0,.int .i64 0,.slice none 0 0]):=by show Blk _ _ _ _;rw [← hW];exact Blk.new w _ _
 have BB:RowKit.Hid (Below w.heap.size w W):=by show Below _ _ _;rw [← hW];exact Bw.out
 have HR:=hid (h'.behind BB.out)
 have HK:=hid (Kept.below (S:=fun k=>k=rb) BB.out)
 have y0:=B0.out.lt
 clear h'
 go_enter Tryz.func70,Tryz.ntmps70
 go_wp2_with (first
  | (go_at_call 110;refine (tword_any W rb nb ⟨#[110,111,116]⟩ _ HR.out).mono ?_;rintro e w1 ⟨rfl,hr,hk⟩;have R1:=hid hr;have K1:=hid (HK.out.trans hk fun _ _ c=>c);have B1:=hid (hk.blk B0.out (by show ¬ _=rb;omega));have y1:=hk.size;clear hr hk)
  | (go_at_call 70;refine (IH.out w1 rb nb rest R1.out).mono ?_;rintro e w2 ⟨⟨op',num',more',a',n',c',kids'⟩,rfl,hpl,hok2,hfr2,hr2,hk2⟩;have HPL:=hid hpl;have OK2:=hid hok2;have FR2:=hid hfr2;have R2:=hid hr2;have K2:=hid (K1.out.trans hk2 fun _ _ c=>c);have B2:=hid (hk2.blk B1.out (by show ¬ _=rb;omega));have y2:=hk2.size;dsimp only [encTm];clear hpl hok2 hfr2 hr2 hk2)
  | (refine bs_one elTm (by decide) rfl (.tmp 58) rfl #[.int .i64 op',.int .i64 num',.int .i64 more',.slice a' n' c'] rfl rfl ?_)
  | (refine wpList_store_row rfl 24 (.tmp 2) (.tmp 60) rfl w.heap.size #[.int .i64 11,.int .i64 0,.int .i64 0,.slice (some ⟨w2.heap.size,0,none⟩) 1 1] rfl rfl _ _ (B2.out.alloc _) tmInfo rfl (tm_one _ _ _ _ _ _) ?_))
 have BA:Below w2.heap.size w2 (w2.alloc (.cells #[.int .i64 op',.int .i64 num',.int .i64 more',.slice a' n' c'] 24)):=Bw.out
 have BR:=setRow_heap (w2.alloc (.cells #[.int .i64 op',.int .i64 num',.int .i64 more',.slice a' n' c'] 24)) w.heap.size _ #[.int .i64 11,.int .i64 0,.int .i64 0,.slice (some ⟨w2.heap.size,0,none⟩) 1 1] _ _ (B2.out.alloc _)
 refine bodyPost_ret (results_cell_row rfl _ _ _ _ _ _ _ rfl BR Tryz.underlying24 rfl tmInfo) rfl ?_
 have hv:∀ g,w1.heap.size≤g→g<(w2.alloc (.cells #[.int .i64 op',.int .i64 num',.int .i64 more',.slice a' n' c'] 24)).heap.size→((w2.alloc (.cells #[.int .i64 op',.int .i64 num',.int .i64 more',.slice a' n' c'] 24)).setRow w.heap.size #[.int .i64 11,.int .i64 0,.int .i64 0,.slice (some ⟨w2.heap.size,0,none⟩) 1 1]).heap[g]? = (w2.alloc (.cells #[.int .i64 op',.int .i64 num',.int .i64 more',.slice a' n' c'] 24)).heap[g]?:=fun g h1 h2=>setRow_other _ _ _ _ (by omega)
 refine ⟨.mk 11 0 0 (some ⟨w2.heap.size,0,none⟩) 1 1 [.mk op' num' more' a' n' c' kids'],rfl,by rw [TmM.pl_mk,List.map_cons,HPL.out];rfl,.mk _ _ _ _ _ _ _ ?_ rfl (Nat.le_refl _) (by decide) (fun h=>by cases h) (fun k hk=>by rw [List.mem_singleton.1 hk];exact (OK2.out.beh BA).far hv FR2.out),.mk _ _ _ _ _ _ _ (fun g off e=>by cases e;omega) (fun k hk=>by rw [List.mem_singleton.1 hk];exact FR2.out.le (by omega)),(R2.out.behind BA).setRow (by omega) (by omega),(K2.out.behind BA).setRowN (Nat.le_refl _)⟩
 refine vw_setRow (g:=w.heap.size) (fun i v hi=>⟨_,0,rfl,?_⟩) fun g off e=>by cases e;omega
 rw [Nat.zero_add,(Blk.new w2 _ _).cell i]
 simpa [cellsOf,encTm] using hi
theorem reads_any (t:Tm):t.form=true→t.size≤1000→Reads t:=by
 induction t using Tm.ind with
 | h op num more kids ih =>
  intro hf hs
  obtain ⟨hfo,hfk⟩:=form_kid hf
  rw [Tm.size] at hs
  have hkl:kids.length≤1000:=by have:=Tm.sizes_len kids;omega
  have ih':∀ k ∈ kids,Reads k:=fun k hk=>ih k hk (hfk k hk) (by have:=Tm.sizes_mem hk;omega)
  have leaf:op ≠ 9→op ≠ 10→op ≠ 11→kids=[]:=fun h1 h2 h3=>by
   unfold formB at hfo
   rw [Bool.and_eq_true,Bool.and_eq_true] at hfo
   have:=hfo.2
   rw [if_neg (by omega)] at this
   exact List.eq_nil_of_length_eq_zero (of_decide_eq_true this)
  have zeros:op=9∨op=10∨op=11→num=0∧more=0:=fun h=>by
   unfold formB at hfo
   rcases h with rfl | rfl | rfl <;> simp at hfo <;> omega
  rcases formB_op hfo with rfl | rfl | rfl | rfl | rfl | rfl | rfl | rfl | ⟨rfl | rfl,_⟩ | ⟨rfl,h1⟩
  iterate 8 (obtain rfl:=leaf (by decide) (by decide) (by decide);first | exact reads_1 _ _ hfo | exact reads_2 _ _ hfo | exact reads_3 _ _ hfo | exact reads_4 _ _ hfo | exact reads_5 _ _ hfo | exact reads_6 _ _ hfo | exact reads_7 _ _ hfo | exact reads_8 _ _ hfo)
  ·obtain ⟨rfl,rfl⟩:=zeros (.inl rfl)
   exact reads_9 kids ih' hkl
  ·obtain ⟨rfl,rfl⟩:=zeros (.inr (.inl rfl))
   exact reads_10 kids ih' hkl
  ·obtain ⟨rfl,rfl⟩:=zeros (.inr (.inr rfl))
   obtain ⟨k,rfl⟩:=List.length_eq_one_iff.1 h1
   exact reads_11 k (ih' k (List.mem_singleton.2 rfl))
end Go.Proofs.YtancajcelmhnkaaGreatDoor
