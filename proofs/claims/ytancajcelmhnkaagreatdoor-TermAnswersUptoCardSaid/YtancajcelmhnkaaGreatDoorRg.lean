/- The reader of terms at any words: lists and terms. -/
import Derived.Test.YtancajcelmhnkaaGreatDoorTrt
import Derived.Test.YtancajcelmhnkaaGreatDoorIc
set_option maxRecDepth 100000
set_option maxHeartbeats 4000000
namespace Go.Proofs.YtancajcelmhnkaaGreatDoor
open Go.RowKit Go.Sort Go.Shelf
set_option linter.unusedVariables false
set_option linter.unusedSimpArgs false
def RgP (w:World) (rb nb:Nat) (ws:List ByteArray) (e:Ending) (w':World):Prop :=
 ∃ (tm:TmM) (ws':List ByteArray) (fl:Bool),e=.returned (.agg (encTm tm).toArray)∧TmOk w' tm∧TmFr w.heap.size tm∧TRx w' rb nb ws' fl∧(fl=false→Rd ws tm.pl ws')∧(fl=true→∀ t r,¬ Rd ws t r)∧ws' <:+ ws∧Kept (fun k=>k=rb) w w'
def Rg (n:Nat):Prop:=∀ (ws:List ByteArray),ws.length≤n→ws.length≤1000→(∀ s ∈ ws,s.size≤1000)→∀ (w:World) (rb nb:Nat),TRx w rb nb ws false→NumW w→NumB rb→nb<w.heap.size →
 Calls Tryz.prog 70 #[.pointer (some ⟨rb,0,none⟩)] w (RgP w rb nb ws)
def RkP (w:World) (rb nb:Nat) (ws:List ByteArray) (e:Ending) (w':World):Prop :=
 ∃ (a:Option Addr) (n c:Nat) (L:List TmM) (ws':List ByteArray) (fl:Bool),e=.returned (.slice a n c)∧Vw w' a (cellsOf encTm L)∧L.length=n∧n≤c∧c≤maxLen∧(a=none→n=0)∧(∀ k ∈ L,TmOk w' k∧TmFr w.heap.size k)∧(∀ g off,a=some ⟨g,off,none⟩→w.heap.size≤g)∧TRx w' rb nb ws' fl∧(fl=false→∃ ws1,ws=wOpen :: ws1∧Rl ws1 (L.map TmM.pl) ws')∧(fl=true→∀ ws1 ks r,ws=wOpen :: ws1→¬ Rl ws1 ks r)∧ws' <:+ ws∧Kept (fun k=>k=rb) w w'
def RkI (w:World) (rb nb:Nat) (ws:List ByteArray) (v:Value) (wr:World):Prop :=
 ∃ (k:Nat) (L:List TmM) (r:List ByteArray) (fl:Bool),L.length=k∧wr.ownsRow w.heap.size 24 4 v k (cellsOf encTm L)∧(∀ t ∈ L,TmOk wr t∧TmFr w.heap.size t∧∀ g,v.ownBlock=some g→TmOk (hole g wr) t)∧TRx wr rb nb r fl∧(fl=false→Rp ws (L.map TmM.pl) r)∧(fl=true→∀ ks r',¬ Rl ws ks r')∧r <:+ ws∧Kept (fun k=>k=rb) w wr
def isTr:Option Value→Bool
 | some (.bool b)=>b
 | _=>false
def rdM (rb:Nat) (w:World):Nat:=if isTr (w.cell? ⟨rb,1,none⟩) then 0 else 1+(match w.cell? ⟨rb,0,none⟩ with | some v=>slLen v | none=>0)
theorem rdM_yes {w:World} {rb nb:Nat} {ws:List ByteArray} (h:TRx w rb nb ws true):rdM rb w=0:=by
 unfold rdM;rw [h.flag];rfl
theorem rdM_no {w:World} {rb nb:Nat} {ws:List ByteArray} (h:TRx w rb nb ws false):rdM rb w=1+ws.length:=by
 unfold rdM
 rw [h.flag]
 obtain ⟨⟨a,c,hb,_⟩,_⟩:=h
 have:=hb.cell 0
 rw [this];rfl
theorem first_close {s:ByteArray} (h:s ≠ wClose):(s.toList == [41])=false:=by
 have:=str_ne h
 rwa [show wClose.toList=[41] from ByteArray.toList_mk _] at this
theorem first_open {s:ByteArray} (h:s ≠ wOpen):(s.toList == [40])=false:=by
 have:=str_ne h
 rwa [show wOpen.toList=[40] from ByteArray.toList_mk _] at this
theorem suff_tail {α:Type} (l:List α):l.tail <:+ l:=by cases l <;> simp [List.suffix_refl]
theorem suff_mem {l m:List ByteArray} (h:l <:+ m) {P:ByteArray→Prop} (k:∀ s ∈ m,P s):∀ s ∈ l,P s:=fun s hs=>k s (h.mem hs)
theorem xlist_any (n:Nat) (ih:Rg n) (ws:List ByteArray) (hw:ws.length≤n+1) (hw2:ws.length≤1000) (hsz:∀ s ∈ ws,s.size≤1000) (w:World) (rb nb:Nat) (h:TRx w rb nb ws false) (hN:NumW w) (hB:NumB rb) (hnl:nb<w.heap.size) :
  Calls Tryz.prog 113 #[.pointer (some ⟨rb,0,none⟩)] w (RkP w rb nb ws):=by
 have hrl:=h.lt
 have HW:=hid (xword_any w rb nb ws false h)
 have nilV:∀ W:World,Vw W none (cellsOf encTm []):=fun W i v hi=>by simp [cellsOf] at hi
 clear h
 by_cases ho:∃ rest,ws=wOpen :: rest
 ·obtain ⟨rest,rfl⟩:=ho
  have HW':RowKit.Hid (Calls Tryz.prog 110 #[.pointer (some ⟨rb,0,none⟩)] w fun e w'=>e=.returned (.string ⟨#[40]⟩)∧TRx w' rb nb rest false∧Kept (fun k=>k=rb) w w'):=HW
  clear HW
  have IH:=hid ih;have HNW:=hid hN;have HNB:=hid hB;have HSZ:=hid fun s hs=>hsz s (List.mem_cons_of_mem _ hs)
  have hrn:rest.length≤n:=by simpa using hw
  have hr2:rest.length≤999:=by simp at hw2;omega
  clear ih hN hB hsz hw hw2
  go_enter Tryz.func113,Tryz.ntmps113
  go_wp2_with (go_at_call 110;refine HW'.out.mono ?_;rintro e w1 ⟨rfl,hr,hk⟩;have R1:=hid hr;have K1:=hid hk;clear hr hk)
  go_loopw [3] (fun v wr=>RkI w rb nb rest v wr) (fun _ wr=>rdM rb wr)
  case atStart=>exact ⟨0,[],rest,false,rfl,World.ownsRow_nil _ _ _ _,(fun t ht=>by cases ht),R1.out,fun _=>.nil _,(fun h=>by cases h),List.suffix_refl _,K1.out⟩
  case round =>
   obtain ⟨k,L,r,fl,hLk,hown,hok,hr,hyes,hno,hsr,hkp⟩:=hrel
   have OWN:=hid hown;have OK:=hid hok;have KP:=hid hkp;have HLK:=hid hLk;have HSR:=hid hsr;have HRX:=hid hr
   have yb:=hkp.size
   obtain ⟨a0,c0,rfl,hc1,hc2,hc3⟩:=own_form hown
   have HC3:=hid hc3
   have hrlen:=hsr.length_le
   have hne:∀ g,(Value.slice a0 k c0).ownBlock=some g→¬ g=rb:=fun g hg=>by have:=own_ge OWN.out g hg;omega
   have HNE:=hid hne
   have HNW':=hid (HNW.out.kept hkp HNB.out.1 HNB.out.2.1 HNB.out.2.2)
   have FIN:(a0=none→k=0)∧(∀ g off,a0=some ⟨g,off,none⟩→w.heap.size≤g):=by
    refine ⟨fun e=>?_,fun g off e=>?_⟩
    ·rcases HC3.out with ⟨-,h,-⟩ | ⟨g,h,-⟩
     ·exact h
     ·rw [e] at h;cases h
    ·rcases HC3.out with ⟨h,-⟩ | ⟨g',h,h',-⟩
     ·rw [h] at e;cases e
     ·rw [h] at e;cases e;exact h'
   have HFIN:=hid FIN
   clear hown hok hkp hc3 hLk hsr hne FIN
   cases fl with
   | true =>
    have HNO:=hid (hno rfl)
    have x1:=hr.flag
    clear hyes hno hr
    go_wp2
    go_ret
    refine ⟨a0,k,c0,L,r,true,rfl,vw_of_own OWN.out,HLK.out,hc1,hc2,HFIN.out.1,fun t ht=>⟨(OK.out t ht).1,(OK.out t ht).2.1⟩,HFIN.out.2,HRX.out,(fun h=>by cases h),fun _ ws1 ks r' e=>?_,HSR.out.trans (List.suffix_cons _ _),KP.out⟩
    cases e
    exact HNO.out ks r'
   | false =>
    have HRP:=hid (hyes rfl)
    have hkl:=(hyes rfl).len
    rw [List.length_map] at hkl
    have hkb:k≤999:=by have:=HLK.out;omega
    clear hyes hno hkl
    have HT:=hid (IH.out r (by omega) (by omega) (suff_mem HSR.out HSZ.out) wr rb nb hr HNW'.out HNB.out (by omega))
    cases r with
    | nil =>
     obtain ⟨ax,cx,x0,x1⟩:=hr.empty
     have HNC:RowKit.Hid (∀ l:List ByteArray,([]:List ByteArray) ≠ wClose :: l):=hid fun l e=>by cases e
     clear hr
     go_wp2_with (first
      | (go_at_call 70;(with_reducible refine HT.out.mono ?_);rintro e w2 ⟨⟨op',num',more',a',n',c',kids'⟩,r2,fl2,rfl,hok2,hfr2,hr2,hy2,hn2,hs2,hk2⟩;have OK2:=hid hok2;have FR2:=hid hfr2;have R2:=hid hr2;have K2:=hid hk2;have HY2:=hid hy2;have HN2:=hid hn2;have HS2:=hid hs2;have OW2:=hid (Kept.own hk2 OWN.out (fun g hg=>by have:=own_ge OWN.out g hg;show ¬ g=rb;omega));have y2:=hk2.size;dsimp only [encTm];clear hok2 hfr2 hr2 hk2 hy2 hn2 hs2)
      | (refine bs_one elTm (by decide) rfl (.tmp 35) rfl #[.int .i64 op',.int .i64 num',.int .i64 more',.slice a' n' c'] rfl rfl ?_)
      | (at_builtin;refine app_list elTm rfl _ _ rfl w.heap.size _ k (cellsOf encTm L) rfl (own_keep OW2.out Bw.out) _ 1 _ (encTm (.mk op' num' more' a' n' c' kids')) rfl (by first | exact vw_blk (Blk.fresh (by simp)) | exact vw_blk (Blk.fresh (by simp)).drew) (by simp) rfl (by intro u hu;simp [encTm] at hu;rcases hu with rfl | rfl | rfl | rfl <;> rfl) (by omega) (by simp;omega) ?_;intro v2 w4 hown2 hg2 hv2))
     go_roundw
     case rel =>
      have BA:Below w2.heap.size w2 (w2.alloc (.cells #[.int .i64 op',.int .i64 num',.int .i64 more',.slice a' n' c'] 24)):=Bw.out
      have OWA:=own_keep OW2.out BA
      refine ⟨k+1,L++[(.mk op' num' more' a' n' c' kids')],r2,fl2,by rw [List.length_append,HLK.out];rfl,?_,?_,(R2.out.behind BA).grown OWA hrl hnl hg2,?_,?_,HS2.out.trans HSR.out,((KP.out.trans K2.out fun _ _ c=>c).behind BA).grown OWA (Nat.le_refl _) hg2⟩
      ·rw [cellsOf_append]
       simpa [cellsOf] using hown2
      ·intro t ht
       have key:TmOk (w2.alloc (.cells #[.int .i64 op',.int .i64 num',.int .i64 more',.slice a' n' c'] 24)) t∧TmFr w.heap.size t∧∀ g,(Value.slice a0 k c0).ownBlock=some g→TmOk (hole g (w2.alloc (.cells #[.int .i64 op',.int .i64 num',.int .i64 more',.slice a' n' c'] 24))) t:=by
        rcases List.mem_append.1 ht with ht | ht
        ·obtain ⟨q1,q2,q3⟩:=OK.out t ht
         refine ⟨(tmOk_kept q1 q2 K2.out hrl).beh BA,q2,fun g hg=>?_⟩
         have h1:=tmOk_keptH (q3 g hg) q2 K2.out hrl
         by_cases hgl:g<w2.heap.size
         ·exact h1.beh (hole_below BA hgl)
         ·rw [hole_out (by omega)] at h1
          exact h1.beh (hole_new BA (by omega))
        ·rw [List.mem_singleton.1 ht]
         refine ⟨OK2.out.beh BA,FR2.out.le yb,fun g hg=>?_⟩
         have hgl:g<wr.heap.size:=by
          rcases OWN.out.2 with ⟨h0,_⟩ | ⟨g',cap,cur,h0,_,hh,_⟩
          ·rw [h0] at hg;simp [Value.ownBlock] at hg
          ·rw [h0] at hg;simp [Value.ownBlock] at hg;subst hg;exact lt_of_block hh
         exact (OK2.out.holedF FR2.out hgl).beh (hole_below BA (by omega))
       obtain ⟨k1,k2,k3⟩:=key
       have:=tm_app k1 k3 hg2 hv2
       exact ⟨this.1,k2,this.2⟩
      ·intro e
       rw [List.map_append]
       exact .snoc _ _ _ _ _ HRP.out (HY2.out e)
      ·intro e ks r' hl
       obtain ⟨ks',-,hl'⟩:=HRP.out.back hl
       exact rl_none (HN2.out e) HNC.out hl'
     case measure =>
      have BA:Below w2.heap.size w2 (w2.alloc (.cells #[.int .i64 op',.int .i64 num',.int .i64 more',.slice a' n' c'] 24)):=Bw.out
      have OWA:=own_keep OW2.out BA
      have hx:=(R2.out.behind BA).grown OWA hrl hnl hg2
      rw [rdM_no HRX.out]
      cases fl2 with
      | true=>rw [rdM_yes hx];omega
      | false =>
       rw [rdM_no hx]
       have:=(HY2.out rfl).less
       omega
    | cons s rt =>
     obtain ⟨off,m,c,x0,x1,x2,x3,x4⟩:=hr.first
     by_cases hcl:s=wClose
     ·subst hcl
      have HTW:RowKit.Hid (Calls Tryz.prog 110 #[.pointer (some ⟨rb,0,none⟩)] wr fun e w'=>e=.returned (.string ⟨#[41]⟩)∧TRx w' rb nb rt false∧Kept (fun k=>k=rb) wr w'):=hid (xword_cons wr rb nb false ⟨#[41]⟩ rt hr)
      have x2':wr.cell? ⟨nb,off,none⟩=some (.string ⟨#[41]⟩):=x2
      clear hr HT x2
      go_wp2_with (go_at_call 110;refine HTW.out.mono ?_;rintro e w2 ⟨rfl,hr2,hk2⟩;have R2:=hid hr2;have K2:=hid hk2;clear hr2 hk2)
      go_ret
      refine ⟨a0,k,c0,L,rt,false,rfl,vw_of_own (Kept.own K2.out OWN.out HNE.out),HLK.out,hc1,hc2,HFIN.out.1,fun t ht=>?_,HFIN.out.2,R2.out,fun _=>⟨rest,rfl,?_⟩,(fun h=>by cases h),((List.suffix_cons _ _).trans HSR.out).trans (List.suffix_cons _ _),KP.out.trans K2.out fun _ _ c=>c⟩
      ·obtain ⟨q1,q2,-⟩:=OK.out t ht
       exact ⟨tmOk_kept q1 q2 K2.out hrl,q2⟩
      ·have:=HRP.out.on (rl_close (ws:=rt))
       rwa [List.append_nil] at this
     ·have hcl':=first_close hcl
      have HNC:RowKit.Hid (∀ l:List ByteArray,s :: rt ≠ wClose :: l):=hid fun l e=>by cases e;exact hcl rfl
      clear hr hcl
      go_wp2_with (first
       | (go_at_call 70;(with_reducible refine HT.out.mono ?_);rintro e w2 ⟨⟨op',num',more',a',n',c',kids'⟩,r2,fl2,rfl,hok2,hfr2,hr2,hy2,hn2,hs2,hk2⟩;have OK2:=hid hok2;have FR2:=hid hfr2;have R2:=hid hr2;have K2:=hid hk2;have HY2:=hid hy2;have HN2:=hid hn2;have HS2:=hid hs2;have OW2:=hid (Kept.own hk2 OWN.out (fun g hg=>by have:=own_ge OWN.out g hg;show ¬ g=rb;omega));have y2:=hk2.size;dsimp only [encTm];clear hok2 hfr2 hr2 hk2 hy2 hn2 hs2)
       | (refine bs_one elTm (by decide) rfl (.tmp 35) rfl #[.int .i64 op',.int .i64 num',.int .i64 more',.slice a' n' c'] rfl rfl ?_)
       | (at_builtin;refine app_list elTm rfl _ _ rfl w.heap.size _ k (cellsOf encTm L) rfl (own_keep OW2.out Bw.out) _ 1 _ (encTm (.mk op' num' more' a' n' c' kids')) rfl (by first | exact vw_blk (Blk.fresh (by simp)) | exact vw_blk (Blk.fresh (by simp)).drew) (by simp) rfl (by intro u hu;simp [encTm] at hu;rcases hu with rfl | rfl | rfl | rfl <;> rfl) (by omega) (by simp;omega) ?_;intro v2 w4 hown2 hg2 hv2))
      go_roundw
      case rel =>
       have BA:Below w2.heap.size w2 (w2.alloc (.cells #[.int .i64 op',.int .i64 num',.int .i64 more',.slice a' n' c'] 24)):=Bw.out
       have OWA:=own_keep OW2.out BA
       refine ⟨k+1,L++[(.mk op' num' more' a' n' c' kids')],r2,fl2,by rw [List.length_append,HLK.out];rfl,?_,?_,(R2.out.behind BA).grown OWA hrl hnl hg2,?_,?_,HS2.out.trans HSR.out,((KP.out.trans K2.out fun _ _ c=>c).behind BA).grown OWA (Nat.le_refl _) hg2⟩
       ·rw [cellsOf_append]
        simpa [cellsOf] using hown2
       ·intro t ht
        have key:TmOk (w2.alloc (.cells #[.int .i64 op',.int .i64 num',.int .i64 more',.slice a' n' c'] 24)) t∧TmFr w.heap.size t∧∀ g,(Value.slice a0 k c0).ownBlock=some g→TmOk (hole g (w2.alloc (.cells #[.int .i64 op',.int .i64 num',.int .i64 more',.slice a' n' c'] 24))) t:=by
         rcases List.mem_append.1 ht with ht | ht
         ·obtain ⟨q1,q2,q3⟩:=OK.out t ht
          refine ⟨(tmOk_kept q1 q2 K2.out hrl).beh BA,q2,fun g hg=>?_⟩
          have h1:=tmOk_keptH (q3 g hg) q2 K2.out hrl
          by_cases hgl:g<w2.heap.size
          ·exact h1.beh (hole_below BA hgl)
          ·rw [hole_out (by omega)] at h1
           exact h1.beh (hole_new BA (by omega))
         ·rw [List.mem_singleton.1 ht]
          refine ⟨OK2.out.beh BA,FR2.out.le yb,fun g hg=>?_⟩
          have hgl:g<wr.heap.size:=by
           rcases OWN.out.2 with ⟨h0,_⟩ | ⟨g',cap,cur,h0,_,hh,_⟩
           ·rw [h0] at hg;simp [Value.ownBlock] at hg
           ·rw [h0] at hg;simp [Value.ownBlock] at hg;subst hg;exact lt_of_block hh
          exact (OK2.out.holedF FR2.out hgl).beh (hole_below BA (by omega))
        obtain ⟨k1,k2,k3⟩:=key
        have:=tm_app k1 k3 hg2 hv2
        exact ⟨this.1,k2,this.2⟩
       ·intro e
        rw [List.map_append]
        exact .snoc _ _ _ _ _ HRP.out (HY2.out e)
       ·intro e ks r' hl
        obtain ⟨ks',-,hl'⟩:=HRP.out.back hl
        exact rl_none (HN2.out e) HNC.out hl'
      case measure =>
       have BA:Below w2.heap.size w2 (w2.alloc (.cells #[.int .i64 op',.int .i64 num',.int .i64 more',.slice a' n' c'] 24)):=Bw.out
       have OWA:=own_keep OW2.out BA
       have hx:=(R2.out.behind BA).grown OWA hrl hnl hg2
       rw [rdM_no HRX.out]
       cases fl2 with
       | true=>rw [rdM_yes hx];omega
       | false =>
        rw [rdM_no hx]
        have:=(HY2.out rfl).less
        omega
 ·obtain ⟨s0,hs0⟩:∃ s,ws.headD ⟨#[]⟩=s:=⟨_,rfl⟩
  have hne:s0 ≠ wOpen:=by
   rintro rfl
   cases ws with
   | nil=>exact absurd hs0 (by decide)
   | cons s rt=>exact ho ⟨rt,by rw [show s=wOpen from hs0]⟩
  have hq:=first_open hne
  have HSUF:=hid (suff_tail ws)
  have HNO:RowKit.Hid (∀ ws1 (ks:List Tm) r,ws=wOpen :: ws1→¬ Rl ws1 ks r):=hid fun ws1 ks r e _=>ho ⟨ws1,e⟩
  rw [hs0] at HW
  obtain ⟨fl1,hf1⟩:∃ b,(false || ws.isEmpty)=b:=⟨_,rfl⟩
  obtain ⟨tl,htl⟩:∃ l,ws.tail=l:=⟨_,rfl⟩
  rw [hf1,htl] at HW
  rw [htl] at HSUF
  clear ho hs0 hf1 htl hne hN hB hsz ih
  go_enter Tryz.func113,Tryz.ntmps113
  go_wp2_with (go_at_call 110;refine HW.out.mono ?_;rintro e w1 ⟨rfl,hr,hk⟩;have R1:=hid hr;have K1:=hid hk;have x1:=hr.flag;have x2:=hr.free;have y1:=hr.lt;clear hr hk)
  have R2:=hid R1.out.put
  have K2:=hid (K1.out.set (g:=rb) (o:=1) (v:=.bool true) rfl)
  obtain ⟨W2,hW2⟩:∃ W2,w1.setCell ⟨rb,1,none⟩ (.bool true)=W2:=⟨_,rfl⟩
  rw [hW2] at R2 K2 ⊢
  have z1:=R2.out.flag
  clear hW2 x1 x2
  go_rounds 1
  go_wp2
  go_ret
  exact ⟨none,0,0,[],tl,true,rfl,nilV _,rfl,Nat.le_refl _,Nat.zero_le _,fun _=>rfl,(fun k hk=>by cases hk),(fun g off e=>by cases e),R2.out,(fun h=>by cases h),fun _=>HNO.out,HSUF.out,K2.out⟩
theorem leafOk {w:World} {op num more:Int}:TmOk w (.mk op num more none 0 0 []):=.mk _ _ _ _ _ _ _ (fun i v hi=>by simp [cellsOf] at hi) rfl (Nat.le_refl _) (by decide) (fun _=>rfl) (fun k hk=>by cases hk)
theorem leafFr {base:Nat} {op num more:Int}:TmFr base (.mk op num more none 0 0 []):=.mk _ _ _ _ _ _ _ (fun g off e=>by cases e) (fun k hk=>by cases hk)
theorem xterm_1 (rest:List ByteArray) (hw2:(⟨#[116,114,117,101]⟩ :: rest).length≤1000) (hsz:∀ x ∈ ⟨#[116,114,117,101]⟩ :: rest,x.size≤1000) (w:World) (rb nb:Nat) (h:TRx w rb nb (⟨#[116,114,117,101]⟩ :: rest) false) (hN:NumW w) (hB:NumB rb) (hnl:nb<w.heap.size):Calls Tryz.prog 70 #[.pointer (some ⟨rb,0,none⟩)] w (RgP w rb nb (⟨#[116,114,117,101]⟩ :: rest)):=by
 have ho:opV ⟨#[116,114,117,101]⟩=1:=by decide +kernel
 have hrl:=h.lt
 obtain ⟨W,hW⟩:∃ W,w.alloc (.cells #[.int .i64 0,.int .i64 0,.int .i64 0,.slice none 0 0] 24)=W:=⟨_,rfl⟩
 have B0:RowKit.Hid (Blk W w.heap.size 24 #[.int .i64 0,.int .i64 0,.int .i64 0,.slice none 0 0]):=by show Blk _ _ _ _;rw [← hW];exact Blk.new w _ _
 have BB:RowKit.Hid (Below w.heap.size w W):=by show Below _ _ _;rw [← hW];exact Bw.out
 have HR:=hid (h.behind BB.out)
 have HK:=hid (Kept.below (S:=fun k=>k=rb) BB.out)
 have HNW:=hid (hN.below BB.out);have HNB:=hid hB;have HSZ:=hid hsz
 have y0:=B0.out.lt
 clear h hN hB hsz
 go_enter Tryz.func70,Tryz.ntmps70
 go_wp2_with (first
  | (go_at_call 110;refine (xword_cons W rb nb false ⟨#[116,114,117,101]⟩ rest HR.out).mono ?_;rintro e w1 ⟨rfl,hr,hk⟩;have R1:=hid hr;have K1:=hid (HK.out.trans hk fun _ _ c=>c);have B1:=hid (hk.blk B0.out (by show ¬ _=rb;omega));have N1:=hid (HNW.out.kept hk HNB.out.1 HNB.out.2.1 HNB.out.2.2);have y1:=hk.size;clear hr hk)
  | (refine wpList_store_row rfl 24 (.tmp 2) (.tmp 7) rfl w.heap.size #[.int .i64 1,.int .i64 0,.int .i64 0,.slice none 0 0] rfl rfl _ _ B1.out tmInfo rfl (tm_one _ _ _ _ _ _) ?_))
 have BX:=B1
 have BR:=setRow_heap w1 w.heap.size _ #[.int .i64 1,.int .i64 0,.int .i64 0,.slice none 0 0] _ _ BX.out
 refine bodyPost_ret (results_cell_row rfl _ _ _ _ _ _ _ rfl BR Tryz.underlying24 rfl tmInfo) rfl ?_
 exact ⟨.mk 1 0 0 none 0 0 [],rest,false,rfl,leafOk,leafFr,R1.out.setRow (by omega) (by omega),fun _=>(rdi_one ho).2 ⟨rfl,rfl⟩,(fun h=>by cases h),List.suffix_cons _ _,K1.out.setRowN (Nat.le_refl _)⟩
theorem xterm_2 (rest:List ByteArray) (hw2:(⟨#[99,114,111,112]⟩ :: rest).length≤1000) (hsz:∀ x ∈ ⟨#[99,114,111,112]⟩ :: rest,x.size≤1000) (w:World) (rb nb:Nat) (h:TRx w rb nb (⟨#[99,114,111,112]⟩ :: rest) false) (hN:NumW w) (hB:NumB rb) (hnl:nb<w.heap.size):Calls Tryz.prog 70 #[.pointer (some ⟨rb,0,none⟩)] w (RgP w rb nb (⟨#[99,114,111,112]⟩ :: rest)):=by
 have ho:opV ⟨#[99,114,111,112]⟩=2:=by decide +kernel
 have hrl:=h.lt
 obtain ⟨W,hW⟩:∃ W,w.alloc (.cells #[.int .i64 0,.int .i64 0,.int .i64 0,.slice none 0 0] 24)=W:=⟨_,rfl⟩
 have B0:RowKit.Hid (Blk W w.heap.size 24 #[.int .i64 0,.int .i64 0,.int .i64 0,.slice none 0 0]):=by show Blk _ _ _ _;rw [← hW];exact Blk.new w _ _
 have BB:RowKit.Hid (Below w.heap.size w W):=by show Below _ _ _;rw [← hW];exact Bw.out
 have HR:=hid (h.behind BB.out)
 have HK:=hid (Kept.below (S:=fun k=>k=rb) BB.out)
 have HNW:=hid (hN.below BB.out);have HNB:=hid hB;have HSZ:=hid hsz
 have y0:=B0.out.lt
 clear h hN hB hsz
 obtain ⟨x,hx⟩:∃ x,rest.headD ⟨#[]⟩=x:=⟨_,rfl⟩
 obtain ⟨fl,hfl⟩:∃ b,(false || rest.isEmpty || (nuV (rest.headD ⟨#[]⟩)).isNone)=b:=⟨_,rfl⟩
 obtain ⟨nn,hnn⟩:∃ n,(nuV (rest.headD ⟨#[]⟩)).getD 0=n:=⟨_,rfl⟩
 have hxs:(rest.headD ⟨#[]⟩).size≤1000:=by
  cases rest with
  | nil=>exact Nat.zero_le _
  | cons x l=>exact HSZ.out x (by simp)
 have HNUM:=hid fun W' hR hN'=>xnumber_any W' rb nb rest false hR hxs hN' HNB.out
 rw [hfl,hnn] at HNUM
 have HYES:RowKit.Hid (fl=false→Rd (⟨#[99,114,111,112]⟩ :: rest) (.mk 2 nn 0 []) rest.tail):=hid fun e=>by
  subst e
  cases rest with
  | nil=>simp at hfl
  | cons x l =>
   rw [rdi_num ho (by decide)]
   cases hv:nuV x with
   | none=>simp [hv] at hfl
   | some v=>exact ⟨x,v,rfl,hv,by simp [hv] at hnn;rw [hnn]⟩
 have HNO:RowKit.Hid (fl=true→∀ t r,¬ Rd (⟨#[99,114,111,112]⟩ :: rest) t r):=hid fun e t r k=>by
  subst e
  rw [rdi_num ho (by decide)] at k
  obtain ⟨x,v,rfl,hv,-⟩:=k
  simp [hv] at hfl
 clear hfl hnn hx hxs ho
 go_enter Tryz.func70,Tryz.ntmps70
 go_wp2_with (first
  | (go_at_call 110;refine (xword_cons W rb nb false ⟨#[99,114,111,112]⟩ rest HR.out).mono ?_;rintro e w1 ⟨rfl,hr,hk⟩;have R1:=hid hr;have K1:=hid (HK.out.trans hk fun _ _ c=>c);have B1:=hid (hk.blk B0.out (by show ¬ _=rb;omega));have N1:=hid (HNW.out.kept hk HNB.out.1 HNB.out.2.1 HNB.out.2.2);have y1:=hk.size;clear hr hk)
  | (go_at_call 111;refine (HNUM.out w1 R1.out N1.out).mono ?_;rintro e w2 ⟨rfl,hr,hk⟩;have R2:=hid hr;have K2:=hid (K1.out.trans hk fun _ _ c=>c);have BX:=hid (hk.blk B1.out (by show ¬ _=rb;omega));clear hr hk)
  | (refine wpList_store_row rfl 24 (.tmp 2) (.tmp 12) rfl w.heap.size #[.int .i64 2,.int .i64 nn,.int .i64 0,.slice none 0 0] rfl rfl _ _ BX.out tmInfo rfl (tm_one _ _ _ _ _ _) ?_))
 have BR:=setRow_heap w2 w.heap.size _ #[.int .i64 2,.int .i64 nn,.int .i64 0,.slice none 0 0] _ _ BX.out
 refine bodyPost_ret (results_cell_row rfl _ _ _ _ _ _ _ rfl BR Tryz.underlying24 rfl tmInfo) rfl ?_
 exact ⟨.mk 2 nn 0 none 0 0 [],rest.tail,fl,rfl,leafOk,leafFr,R2.out.setRow (by omega) (by omega),HYES.out,HNO.out,(suff_tail _).trans (List.suffix_cons _ _),K2.out.setRowN (Nat.le_refl _)⟩
theorem xterm_3 (rest:List ByteArray) (hw2:(⟨#[102,97,109,105,108,121]⟩ :: rest).length≤1000) (hsz:∀ x ∈ ⟨#[102,97,109,105,108,121]⟩ :: rest,x.size≤1000) (w:World) (rb nb:Nat) (h:TRx w rb nb (⟨#[102,97,109,105,108,121]⟩ :: rest) false) (hN:NumW w) (hB:NumB rb) (hnl:nb<w.heap.size):Calls Tryz.prog 70 #[.pointer (some ⟨rb,0,none⟩)] w (RgP w rb nb (⟨#[102,97,109,105,108,121]⟩ :: rest)):=by
 have ho:opV ⟨#[102,97,109,105,108,121]⟩=3:=by decide +kernel
 have hrl:=h.lt
 obtain ⟨W,hW⟩:∃ W,w.alloc (.cells #[.int .i64 0,.int .i64 0,.int .i64 0,.slice none 0 0] 24)=W:=⟨_,rfl⟩
 have B0:RowKit.Hid (Blk W w.heap.size 24 #[.int .i64 0,.int .i64 0,.int .i64 0,.slice none 0 0]):=by show Blk _ _ _ _;rw [← hW];exact Blk.new w _ _
 have BB:RowKit.Hid (Below w.heap.size w W):=by show Below _ _ _;rw [← hW];exact Bw.out
 have HR:=hid (h.behind BB.out)
 have HK:=hid (Kept.below (S:=fun k=>k=rb) BB.out)
 have HNW:=hid (hN.below BB.out);have HNB:=hid hB;have HSZ:=hid hsz
 have y0:=B0.out.lt
 clear h hN hB hsz
 obtain ⟨x,hx⟩:∃ x,rest.headD ⟨#[]⟩=x:=⟨_,rfl⟩
 obtain ⟨fl,hfl⟩:∃ b,(false || rest.isEmpty || (nuV (rest.headD ⟨#[]⟩)).isNone)=b:=⟨_,rfl⟩
 obtain ⟨nn,hnn⟩:∃ n,(nuV (rest.headD ⟨#[]⟩)).getD 0=n:=⟨_,rfl⟩
 have hxs:(rest.headD ⟨#[]⟩).size≤1000:=by
  cases rest with
  | nil=>exact Nat.zero_le _
  | cons x l=>exact HSZ.out x (by simp)
 have HNUM:=hid fun W' hR hN'=>xnumber_any W' rb nb rest false hR hxs hN' HNB.out
 rw [hfl,hnn] at HNUM
 have HYES:RowKit.Hid (fl=false→Rd (⟨#[102,97,109,105,108,121]⟩ :: rest) (.mk 3 nn 0 []) rest.tail):=hid fun e=>by
  subst e
  cases rest with
  | nil=>simp at hfl
  | cons x l =>
   rw [rdi_num ho (by decide)]
   cases hv:nuV x with
   | none=>simp [hv] at hfl
   | some v=>exact ⟨x,v,rfl,hv,by simp [hv] at hnn;rw [hnn]⟩
 have HNO:RowKit.Hid (fl=true→∀ t r,¬ Rd (⟨#[102,97,109,105,108,121]⟩ :: rest) t r):=hid fun e t r k=>by
  subst e
  rw [rdi_num ho (by decide)] at k
  obtain ⟨x,v,rfl,hv,-⟩:=k
  simp [hv] at hfl
 clear hfl hnn hx hxs ho
 go_enter Tryz.func70,Tryz.ntmps70
 go_wp2_with (first
  | (go_at_call 110;refine (xword_cons W rb nb false ⟨#[102,97,109,105,108,121]⟩ rest HR.out).mono ?_;rintro e w1 ⟨rfl,hr,hk⟩;have R1:=hid hr;have K1:=hid (HK.out.trans hk fun _ _ c=>c);have B1:=hid (hk.blk B0.out (by show ¬ _=rb;omega));have N1:=hid (HNW.out.kept hk HNB.out.1 HNB.out.2.1 HNB.out.2.2);have y1:=hk.size;clear hr hk)
  | (go_at_call 111;refine (HNUM.out w1 R1.out N1.out).mono ?_;rintro e w2 ⟨rfl,hr,hk⟩;have R2:=hid hr;have K2:=hid (K1.out.trans hk fun _ _ c=>c);have BX:=hid (hk.blk B1.out (by show ¬ _=rb;omega));clear hr hk)
  | (refine wpList_store_row rfl 24 (.tmp 2) (.tmp 17) rfl w.heap.size #[.int .i64 3,.int .i64 nn,.int .i64 0,.slice none 0 0] rfl rfl _ _ BX.out tmInfo rfl (tm_one _ _ _ _ _ _) ?_))
 have BR:=setRow_heap w2 w.heap.size _ #[.int .i64 3,.int .i64 nn,.int .i64 0,.slice none 0 0] _ _ BX.out
 refine bodyPost_ret (results_cell_row rfl _ _ _ _ _ _ _ rfl BR Tryz.underlying24 rfl tmInfo) rfl ?_
 exact ⟨.mk 3 nn 0 none 0 0 [],rest.tail,fl,rfl,leafOk,leafFr,R2.out.setRow (by omega) (by omega),HYES.out,HNO.out,(suff_tail _).trans (List.suffix_cons _ _),K2.out.setRowN (Nat.le_refl _)⟩
theorem xterm_4 (rest:List ByteArray) (hw2:(⟨#[109,97,114,107]⟩ :: rest).length≤1000) (hsz:∀ x ∈ ⟨#[109,97,114,107]⟩ :: rest,x.size≤1000) (w:World) (rb nb:Nat) (h:TRx w rb nb (⟨#[109,97,114,107]⟩ :: rest) false) (hN:NumW w) (hB:NumB rb) (hnl:nb<w.heap.size):Calls Tryz.prog 70 #[.pointer (some ⟨rb,0,none⟩)] w (RgP w rb nb (⟨#[109,97,114,107]⟩ :: rest)):=by
 have ho:opV ⟨#[109,97,114,107]⟩=4:=by decide +kernel
 have hrl:=h.lt
 obtain ⟨W,hW⟩:∃ W,w.alloc (.cells #[.int .i64 0,.int .i64 0,.int .i64 0,.slice none 0 0] 24)=W:=⟨_,rfl⟩
 have B0:RowKit.Hid (Blk W w.heap.size 24 #[.int .i64 0,.int .i64 0,.int .i64 0,.slice none 0 0]):=by show Blk _ _ _ _;rw [← hW];exact Blk.new w _ _
 have BB:RowKit.Hid (Below w.heap.size w W):=by show Below _ _ _;rw [← hW];exact Bw.out
 have HR:=hid (h.behind BB.out)
 have HK:=hid (Kept.below (S:=fun k=>k=rb) BB.out)
 have HNW:=hid (hN.below BB.out);have HNB:=hid hB;have HSZ:=hid hsz
 have y0:=B0.out.lt
 clear h hN hB hsz
 obtain ⟨fl,hfl⟩:∃ b,(false || rest.isEmpty || decide (letV (rest.headD ⟨#[]⟩)=0))=b:=⟨_,rfl⟩
 obtain ⟨mm,hmm⟩:∃ n,letV (rest.headD ⟨#[]⟩)=n:=⟨_,rfl⟩
 have HMRK:=hid fun W' hR=>xmark_any W' rb nb rest false hR
 rw [hfl,hmm] at HMRK
 have HYES:RowKit.Hid (fl=false→Rd (⟨#[109,97,114,107]⟩ :: rest) (.mk 4 mm 0 []) rest.tail):=hid fun e=>by
  subst e
  cases rest with
  | nil=>simp at hfl
  | cons x l =>
   rw [rdi_mark ho]
   exact ⟨x,rfl,by simpa using hfl,by rw [← hmm];rfl⟩
 have HNO:RowKit.Hid (fl=true→∀ t r,¬ Rd (⟨#[109,97,114,107]⟩ :: rest) t r):=hid fun e t r k=>by
  subst e
  rw [rdi_mark ho] at k
  obtain ⟨x,rfl,hv,-⟩:=k
  simp [hv] at hfl
 clear hfl hmm ho
 go_enter Tryz.func70,Tryz.ntmps70
 go_wp2_with (first
  | (go_at_call 110;refine (xword_cons W rb nb false ⟨#[109,97,114,107]⟩ rest HR.out).mono ?_;rintro e w1 ⟨rfl,hr,hk⟩;have R1:=hid hr;have K1:=hid (HK.out.trans hk fun _ _ c=>c);have B1:=hid (hk.blk B0.out (by show ¬ _=rb;omega));have N1:=hid (HNW.out.kept hk HNB.out.1 HNB.out.2.1 HNB.out.2.2);have y1:=hk.size;clear hr hk)
  | (go_at_call 112;refine (HMRK.out w1 R1.out).mono ?_;rintro e w2 ⟨rfl,hr,hk⟩;have R2:=hid hr;have K2:=hid (K1.out.trans hk fun _ _ c=>c);have BX:=hid (hk.blk B1.out (by show ¬ _=rb;omega));clear hr hk)
  | (refine wpList_store_row rfl 24 (.tmp 2) (.tmp 22) rfl w.heap.size #[.int .i64 4,.int .i64 mm,.int .i64 0,.slice none 0 0] rfl rfl _ _ BX.out tmInfo rfl (tm_one _ _ _ _ _ _) ?_))
 have BR:=setRow_heap w2 w.heap.size _ #[.int .i64 4,.int .i64 mm,.int .i64 0,.slice none 0 0] _ _ BX.out
 refine bodyPost_ret (results_cell_row rfl _ _ _ _ _ _ _ rfl BR Tryz.underlying24 rfl tmInfo) rfl ?_
 exact ⟨.mk 4 mm 0 none 0 0 [],rest.tail,fl,rfl,leafOk,leafFr,R2.out.setRow (by omega) (by omega),HYES.out,HNO.out,(suff_tail _).trans (List.suffix_cons _ _),K2.out.setRowN (Nat.le_refl _)⟩
theorem xterm_5 (rest:List ByteArray) (hw2:(⟨#[122,111,110,101]⟩ :: rest).length≤1000) (hsz:∀ x ∈ ⟨#[122,111,110,101]⟩ :: rest,x.size≤1000) (w:World) (rb nb:Nat) (h:TRx w rb nb (⟨#[122,111,110,101]⟩ :: rest) false) (hN:NumW w) (hB:NumB rb) (hnl:nb<w.heap.size):Calls Tryz.prog 70 #[.pointer (some ⟨rb,0,none⟩)] w (RgP w rb nb (⟨#[122,111,110,101]⟩ :: rest)):=by
 have ho:opV ⟨#[122,111,110,101]⟩=5:=by decide +kernel
 have hrl:=h.lt
 obtain ⟨W,hW⟩:∃ W,w.alloc (.cells #[.int .i64 0,.int .i64 0,.int .i64 0,.slice none 0 0] 24)=W:=⟨_,rfl⟩
 have B0:RowKit.Hid (Blk W w.heap.size 24 #[.int .i64 0,.int .i64 0,.int .i64 0,.slice none 0 0]):=by show Blk _ _ _ _;rw [← hW];exact Blk.new w _ _
 have BB:RowKit.Hid (Below w.heap.size w W):=by show Below _ _ _;rw [← hW];exact Bw.out
 have HR:=hid (h.behind BB.out)
 have HK:=hid (Kept.below (S:=fun k=>k=rb) BB.out)
 have HNW:=hid (hN.below BB.out);have HNB:=hid hB;have HSZ:=hid hsz
 have y0:=B0.out.lt
 clear h hN hB hsz
 obtain ⟨x,hx⟩:∃ x,rest.headD ⟨#[]⟩=x:=⟨_,rfl⟩
 obtain ⟨fl,hfl⟩:∃ b,(false || rest.isEmpty || (nuV (rest.headD ⟨#[]⟩)).isNone)=b:=⟨_,rfl⟩
 obtain ⟨nn,hnn⟩:∃ n,(nuV (rest.headD ⟨#[]⟩)).getD 0=n:=⟨_,rfl⟩
 have hxs:(rest.headD ⟨#[]⟩).size≤1000:=by
  cases rest with
  | nil=>exact Nat.zero_le _
  | cons x l=>exact HSZ.out x (by simp)
 have HNUM:=hid fun W' hR hN'=>xnumber_any W' rb nb rest false hR hxs hN' HNB.out
 rw [hfl,hnn] at HNUM
 have HYES:RowKit.Hid (fl=false→Rd (⟨#[122,111,110,101]⟩ :: rest) (.mk 5 nn 0 []) rest.tail):=hid fun e=>by
  subst e
  cases rest with
  | nil=>simp at hfl
  | cons x l =>
   rw [rdi_num ho (by decide)]
   cases hv:nuV x with
   | none=>simp [hv] at hfl
   | some v=>exact ⟨x,v,rfl,hv,by simp [hv] at hnn;rw [hnn]⟩
 have HNO:RowKit.Hid (fl=true→∀ t r,¬ Rd (⟨#[122,111,110,101]⟩ :: rest) t r):=hid fun e t r k=>by
  subst e
  rw [rdi_num ho (by decide)] at k
  obtain ⟨x,v,rfl,hv,-⟩:=k
  simp [hv] at hfl
 clear hfl hnn hx hxs ho
 go_enter Tryz.func70,Tryz.ntmps70
 go_wp2_with (first
  | (go_at_call 110;refine (xword_cons W rb nb false ⟨#[122,111,110,101]⟩ rest HR.out).mono ?_;rintro e w1 ⟨rfl,hr,hk⟩;have R1:=hid hr;have K1:=hid (HK.out.trans hk fun _ _ c=>c);have B1:=hid (hk.blk B0.out (by show ¬ _=rb;omega));have N1:=hid (HNW.out.kept hk HNB.out.1 HNB.out.2.1 HNB.out.2.2);have y1:=hk.size;clear hr hk)
  | (go_at_call 111;refine (HNUM.out w1 R1.out N1.out).mono ?_;rintro e w2 ⟨rfl,hr,hk⟩;have R2:=hid hr;have K2:=hid (K1.out.trans hk fun _ _ c=>c);have BX:=hid (hk.blk B1.out (by show ¬ _=rb;omega));clear hr hk)
  | (refine wpList_store_row rfl 24 (.tmp 2) (.tmp 27) rfl w.heap.size #[.int .i64 5,.int .i64 nn,.int .i64 0,.slice none 0 0] rfl rfl _ _ BX.out tmInfo rfl (tm_one _ _ _ _ _ _) ?_))
 have BR:=setRow_heap w2 w.heap.size _ #[.int .i64 5,.int .i64 nn,.int .i64 0,.slice none 0 0] _ _ BX.out
 refine bodyPost_ret (results_cell_row rfl _ _ _ _ _ _ _ rfl BR Tryz.underlying24 rfl tmInfo) rfl ?_
 exact ⟨.mk 5 nn 0 none 0 0 [],rest.tail,fl,rfl,leafOk,leafFr,R2.out.setRow (by omega) (by omega),HYES.out,HNO.out,(suff_tail _).trans (List.suffix_cons _ _),K2.out.setRowN (Nat.le_refl _)⟩
theorem xterm_6 (rest:List ByteArray) (hw2:(⟨#[115,97,109,101]⟩ :: rest).length≤1000) (hsz:∀ x ∈ ⟨#[115,97,109,101]⟩ :: rest,x.size≤1000) (w:World) (rb nb:Nat) (h:TRx w rb nb (⟨#[115,97,109,101]⟩ :: rest) false) (hN:NumW w) (hB:NumB rb) (hnl:nb<w.heap.size):Calls Tryz.prog 70 #[.pointer (some ⟨rb,0,none⟩)] w (RgP w rb nb (⟨#[115,97,109,101]⟩ :: rest)):=by
 have ho:opV ⟨#[115,97,109,101]⟩=6:=by decide +kernel
 have hrl:=h.lt
 obtain ⟨W,hW⟩:∃ W,w.alloc (.cells #[.int .i64 0,.int .i64 0,.int .i64 0,.slice none 0 0] 24)=W:=⟨_,rfl⟩
 have B0:RowKit.Hid (Blk W w.heap.size 24 #[.int .i64 0,.int .i64 0,.int .i64 0,.slice none 0 0]):=by show Blk _ _ _ _;rw [← hW];exact Blk.new w _ _
 have BB:RowKit.Hid (Below w.heap.size w W):=by show Below _ _ _;rw [← hW];exact Bw.out
 have HR:=hid (h.behind BB.out)
 have HK:=hid (Kept.below (S:=fun k=>k=rb) BB.out)
 have HNW:=hid (hN.below BB.out);have HNB:=hid hB;have HSZ:=hid hsz
 have y0:=B0.out.lt
 clear h hN hB hsz
 obtain ⟨x,hx⟩:∃ x,rest.headD ⟨#[]⟩=x:=⟨_,rfl⟩
 obtain ⟨fl,hfl⟩:∃ b,(false || rest.isEmpty || (nuV (rest.headD ⟨#[]⟩)).isNone)=b:=⟨_,rfl⟩
 obtain ⟨nn,hnn⟩:∃ n,(nuV (rest.headD ⟨#[]⟩)).getD 0=n:=⟨_,rfl⟩
 have hxs:(rest.headD ⟨#[]⟩).size≤1000:=by
  cases rest with
  | nil=>exact Nat.zero_le _
  | cons x l=>exact HSZ.out x (by simp)
 have HNUM:=hid fun W' hR hN'=>xnumber_any W' rb nb rest false hR hxs hN' HNB.out
 rw [hfl,hnn] at HNUM
 have HYES:RowKit.Hid (fl=false→Rd (⟨#[115,97,109,101]⟩ :: rest) (.mk 6 nn 0 []) rest.tail):=hid fun e=>by
  subst e
  cases rest with
  | nil=>simp at hfl
  | cons x l =>
   rw [rdi_num ho (by decide)]
   cases hv:nuV x with
   | none=>simp [hv] at hfl
   | some v=>exact ⟨x,v,rfl,hv,by simp [hv] at hnn;rw [hnn]⟩
 have HNO:RowKit.Hid (fl=true→∀ t r,¬ Rd (⟨#[115,97,109,101]⟩ :: rest) t r):=hid fun e t r k=>by
  subst e
  rw [rdi_num ho (by decide)] at k
  obtain ⟨x,v,rfl,hv,-⟩:=k
  simp [hv] at hfl
 clear hfl hnn hx hxs ho
 go_enter Tryz.func70,Tryz.ntmps70
 go_wp2_with (first
  | (go_at_call 110;refine (xword_cons W rb nb false ⟨#[115,97,109,101]⟩ rest HR.out).mono ?_;rintro e w1 ⟨rfl,hr,hk⟩;have R1:=hid hr;have K1:=hid (HK.out.trans hk fun _ _ c=>c);have B1:=hid (hk.blk B0.out (by show ¬ _=rb;omega));have N1:=hid (HNW.out.kept hk HNB.out.1 HNB.out.2.1 HNB.out.2.2);have y1:=hk.size;clear hr hk)
  | (go_at_call 111;refine (HNUM.out w1 R1.out N1.out).mono ?_;rintro e w2 ⟨rfl,hr,hk⟩;have R2:=hid hr;have K2:=hid (K1.out.trans hk fun _ _ c=>c);have BX:=hid (hk.blk B1.out (by show ¬ _=rb;omega));clear hr hk)
  | (refine wpList_store_row rfl 24 (.tmp 2) (.tmp 32) rfl w.heap.size #[.int .i64 6,.int .i64 nn,.int .i64 0,.slice none 0 0] rfl rfl _ _ BX.out tmInfo rfl (tm_one _ _ _ _ _ _) ?_))
 have BR:=setRow_heap w2 w.heap.size _ #[.int .i64 6,.int .i64 nn,.int .i64 0,.slice none 0 0] _ _ BX.out
 refine bodyPost_ret (results_cell_row rfl _ _ _ _ _ _ _ rfl BR Tryz.underlying24 rfl tmInfo) rfl ?_
 exact ⟨.mk 6 nn 0 none 0 0 [],rest.tail,fl,rfl,leafOk,leafFr,R2.out.setRow (by omega) (by omega),HYES.out,HNO.out,(suff_tail _).trans (List.suffix_cons _ _),K2.out.setRowN (Nat.le_refl _)⟩
theorem xterm_7 (rest:List ByteArray) (hw2:(⟨#[98,101,102,111,114,101]⟩ :: rest).length≤1000) (hsz:∀ x ∈ ⟨#[98,101,102,111,114,101]⟩ :: rest,x.size≤1000) (w:World) (rb nb:Nat) (h:TRx w rb nb (⟨#[98,101,102,111,114,101]⟩ :: rest) false) (hN:NumW w) (hB:NumB rb) (hnl:nb<w.heap.size):Calls Tryz.prog 70 #[.pointer (some ⟨rb,0,none⟩)] w (RgP w rb nb (⟨#[98,101,102,111,114,101]⟩ :: rest)):=by
 have ho:opV ⟨#[98,101,102,111,114,101]⟩=7:=by decide +kernel
 have hrl:=h.lt
 obtain ⟨W,hW⟩:∃ W,w.alloc (.cells #[.int .i64 0,.int .i64 0,.int .i64 0,.slice none 0 0] 24)=W:=⟨_,rfl⟩
 have B0:RowKit.Hid (Blk W w.heap.size 24 #[.int .i64 0,.int .i64 0,.int .i64 0,.slice none 0 0]):=by show Blk _ _ _ _;rw [← hW];exact Blk.new w _ _
 have BB:RowKit.Hid (Below w.heap.size w W):=by show Below _ _ _;rw [← hW];exact Bw.out
 have HR:=hid (h.behind BB.out)
 have HK:=hid (Kept.below (S:=fun k=>k=rb) BB.out)
 have HNW:=hid (hN.below BB.out);have HNB:=hid hB;have HSZ:=hid hsz
 have y0:=B0.out.lt
 clear h hN hB hsz
 obtain ⟨f1,hf1⟩:∃ b,(false || rest.isEmpty || (nuV (rest.headD ⟨#[]⟩)).isNone)=b:=⟨_,rfl⟩
 obtain ⟨nn,hnn⟩:∃ n,(nuV (rest.headD ⟨#[]⟩)).getD 0=n:=⟨_,rfl⟩
 obtain ⟨fl,hfl⟩:∃ b,(f1 || rest.tail.isEmpty || decide (letV (rest.tail.headD ⟨#[]⟩)=0))=b:=⟨_,rfl⟩
 obtain ⟨mm,hmm⟩:∃ n,letV (rest.tail.headD ⟨#[]⟩)=n:=⟨_,rfl⟩
 have hxs:(rest.headD ⟨#[]⟩).size≤1000:=by
  cases rest with
  | nil=>exact Nat.zero_le _
  | cons x l=>exact HSZ.out x (by simp)
 have HNUM:=hid fun W' hR hN'=>xnumber_any W' rb nb rest false hR hxs hN' HNB.out
 rw [hf1,hnn] at HNUM
 have HMRK:=hid fun W' hR=>xmark_any W' rb nb rest.tail f1 hR
 rw [hfl,hmm] at HMRK
 have HYES:RowKit.Hid (fl=false→Rd (⟨#[98,101,102,111,114,101]⟩ :: rest) (.mk 7 nn mm []) rest.tail.tail):=hid fun e=>by
  subst e
  rw [rdi_bef ho]
  match rest,hf1,hnn,hfl,hmm with
  | [],hf1,_,hfl,_=>rw [← hf1] at hfl;simp at hfl
  | [x],hf1,_,hfl,_=>simp at hfl
  | x :: y :: l,hf1,hnn,hfl,hmm =>
   rw [← hf1] at hfl
   cases hv:nuV x with
   | none=>simp [hv] at hfl
   | some v=>exact ⟨x,y,v,rfl,hv,by simp [hv] at hfl;exact hfl,by simp [hv] at hnn;rw [hnn,← hmm];rfl⟩
 have HNO:RowKit.Hid (fl=true→∀ t r,¬ Rd (⟨#[98,101,102,111,114,101]⟩ :: rest) t r):=hid fun e t r k=>by
  subst e
  rw [rdi_bef ho] at k
  obtain ⟨x,y,v,rfl,hv,hm,-⟩:=k
  rw [← hf1] at hfl
  simp [hv,hm] at hfl
 clear hfl hmm ho hf1 hnn hxs
 go_enter Tryz.func70,Tryz.ntmps70
 go_wp2_with (first
  | (go_at_call 110;refine (xword_cons W rb nb false ⟨#[98,101,102,111,114,101]⟩ rest HR.out).mono ?_;rintro e w1 ⟨rfl,hr,hk⟩;have R1:=hid hr;have K1:=hid (HK.out.trans hk fun _ _ c=>c);have B1:=hid (hk.blk B0.out (by show ¬ _=rb;omega));have N1:=hid (HNW.out.kept hk HNB.out.1 HNB.out.2.1 HNB.out.2.2);have y1:=hk.size;clear hr hk)
  | (go_at_call 111;refine (HNUM.out w1 R1.out N1.out).mono ?_;rintro e w2 ⟨rfl,hr,hk⟩;have R2:=hid hr;have K2:=hid (K1.out.trans hk fun _ _ c=>c);have B2:=hid (hk.blk B1.out (by show ¬ _=rb;omega));clear hr hk)
  | (go_at_call 112;refine (HMRK.out w2 R2.out).mono ?_;rintro e w3 ⟨rfl,hr,hk⟩;have R3:=hid hr;have K3:=hid (K2.out.trans hk fun _ _ c=>c);have BX:=hid (hk.blk B2.out (by show ¬ _=rb;omega));clear hr hk)
  | (refine wpList_store_row rfl 24 (.tmp 2) (.tmp 39) rfl w.heap.size #[.int .i64 7,.int .i64 nn,.int .i64 mm,.slice none 0 0] rfl rfl _ _ BX.out tmInfo rfl (tm_one _ _ _ _ _ _) ?_))
 have BR:=setRow_heap w3 w.heap.size _ #[.int .i64 7,.int .i64 nn,.int .i64 mm,.slice none 0 0] _ _ BX.out
 refine bodyPost_ret (results_cell_row rfl _ _ _ _ _ _ _ rfl BR Tryz.underlying24 rfl tmInfo) rfl ?_
 exact ⟨.mk 7 nn mm none 0 0 [],rest.tail.tail,fl,rfl,leafOk,leafFr,R3.out.setRow (by omega) (by omega),HYES.out,HNO.out,((suff_tail _).trans (suff_tail _)).trans (List.suffix_cons _ _),K3.out.setRowN (Nat.le_refl _)⟩
theorem xterm_8 (rest:List ByteArray) (hw2:(⟨#[107,110,111,119,110]⟩ :: rest).length≤1000) (hsz:∀ x ∈ ⟨#[107,110,111,119,110]⟩ :: rest,x.size≤1000) (w:World) (rb nb:Nat) (h:TRx w rb nb (⟨#[107,110,111,119,110]⟩ :: rest) false) (hN:NumW w) (hB:NumB rb) (hnl:nb<w.heap.size):Calls Tryz.prog 70 #[.pointer (some ⟨rb,0,none⟩)] w (RgP w rb nb (⟨#[107,110,111,119,110]⟩ :: rest)):=by
 have ho:opV ⟨#[107,110,111,119,110]⟩=8:=by decide +kernel
 have hrl:=h.lt
 obtain ⟨W,hW⟩:∃ W,w.alloc (.cells #[.int .i64 0,.int .i64 0,.int .i64 0,.slice none 0 0] 24)=W:=⟨_,rfl⟩
 have B0:RowKit.Hid (Blk W w.heap.size 24 #[.int .i64 0,.int .i64 0,.int .i64 0,.slice none 0 0]):=by show Blk _ _ _ _;rw [← hW];exact Blk.new w _ _
 have BB:RowKit.Hid (Below w.heap.size w W):=by show Below _ _ _;rw [← hW];exact Bw.out
 have HR:=hid (h.behind BB.out)
 have HK:=hid (Kept.below (S:=fun k=>k=rb) BB.out)
 have HNW:=hid (hN.below BB.out);have HNB:=hid hB;have HSZ:=hid hsz
 have y0:=B0.out.lt
 clear h hN hB hsz
 obtain ⟨x,hx⟩:∃ x,rest.headD ⟨#[]⟩=x:=⟨_,rfl⟩
 obtain ⟨fl,hfl⟩:∃ b,(false || rest.isEmpty || (nuV (rest.headD ⟨#[]⟩)).isNone)=b:=⟨_,rfl⟩
 obtain ⟨nn,hnn⟩:∃ n,(nuV (rest.headD ⟨#[]⟩)).getD 0=n:=⟨_,rfl⟩
 have hxs:(rest.headD ⟨#[]⟩).size≤1000:=by
  cases rest with
  | nil=>exact Nat.zero_le _
  | cons x l=>exact HSZ.out x (by simp)
 have HNUM:=hid fun W' hR hN'=>xnumber_any W' rb nb rest false hR hxs hN' HNB.out
 rw [hfl,hnn] at HNUM
 have HYES:RowKit.Hid (fl=false→Rd (⟨#[107,110,111,119,110]⟩ :: rest) (.mk 8 nn 0 []) rest.tail):=hid fun e=>by
  subst e
  cases rest with
  | nil=>simp at hfl
  | cons x l =>
   rw [rdi_num ho (by decide)]
   cases hv:nuV x with
   | none=>simp [hv] at hfl
   | some v=>exact ⟨x,v,rfl,hv,by simp [hv] at hnn;rw [hnn]⟩
 have HNO:RowKit.Hid (fl=true→∀ t r,¬ Rd (⟨#[107,110,111,119,110]⟩ :: rest) t r):=hid fun e t r k=>by
  subst e
  rw [rdi_num ho (by decide)] at k
  obtain ⟨x,v,rfl,hv,-⟩:=k
  simp [hv] at hfl
 clear hfl hnn hx hxs ho
 go_enter Tryz.func70,Tryz.ntmps70
 go_wp2_with (first
  | (go_at_call 110;refine (xword_cons W rb nb false ⟨#[107,110,111,119,110]⟩ rest HR.out).mono ?_;rintro e w1 ⟨rfl,hr,hk⟩;have R1:=hid hr;have K1:=hid (HK.out.trans hk fun _ _ c=>c);have B1:=hid (hk.blk B0.out (by show ¬ _=rb;omega));have N1:=hid (HNW.out.kept hk HNB.out.1 HNB.out.2.1 HNB.out.2.2);have y1:=hk.size;clear hr hk)
  | (go_at_call 111;refine (HNUM.out w1 R1.out N1.out).mono ?_;rintro e w2 ⟨rfl,hr,hk⟩;have R2:=hid hr;have K2:=hid (K1.out.trans hk fun _ _ c=>c);have BX:=hid (hk.blk B1.out (by show ¬ _=rb;omega));clear hr hk)
  | (refine wpList_store_row rfl 24 (.tmp 2) (.tmp 44) rfl w.heap.size #[.int .i64 8,.int .i64 nn,.int .i64 0,.slice none 0 0] rfl rfl _ _ BX.out tmInfo rfl (tm_one _ _ _ _ _ _) ?_))
 have BR:=setRow_heap w2 w.heap.size _ #[.int .i64 8,.int .i64 nn,.int .i64 0,.slice none 0 0] _ _ BX.out
 refine bodyPost_ret (results_cell_row rfl _ _ _ _ _ _ _ rfl BR Tryz.underlying24 rfl tmInfo) rfl ?_
 exact ⟨.mk 8 nn 0 none 0 0 [],rest.tail,fl,rfl,leafOk,leafFr,R2.out.setRow (by omega) (by omega),HYES.out,HNO.out,(suff_tail _).trans (List.suffix_cons _ _),K2.out.setRowN (Nat.le_refl _)⟩
theorem xterm_9 (n:Nat) (ih:Rg n) (rest:List ByteArray) (hw:rest.length≤n) (hw2:(⟨#[97,110,100]⟩ :: rest).length≤1000) (hsz:∀ x ∈ ⟨#[97,110,100]⟩ :: rest,x.size≤1000) (w:World) (rb nb:Nat) (h:TRx w rb nb (⟨#[97,110,100]⟩ :: rest) false) (hN:NumW w) (hB:NumB rb) (hnl:nb<w.heap.size):Calls Tryz.prog 70 #[.pointer (some ⟨rb,0,none⟩)] w (RgP w rb nb (⟨#[97,110,100]⟩ :: rest)):=by
 have ho:opV ⟨#[97,110,100]⟩=9:=by decide +kernel
 have hrl:=h.lt
 obtain ⟨W,hW⟩:∃ W,w.alloc (.cells #[.int .i64 0,.int .i64 0,.int .i64 0,.slice none 0 0] 24)=W:=⟨_,rfl⟩
 have B0:RowKit.Hid (Blk W w.heap.size 24 #[.int .i64 0,.int .i64 0,.int .i64 0,.slice none 0 0]):=by show Blk _ _ _ _;rw [← hW];exact Blk.new w _ _
 have BB:RowKit.Hid (Below w.heap.size w W):=by show Below _ _ _;rw [← hW];exact Bw.out
 have HR:=hid (h.behind BB.out)
 have HK:=hid (Kept.below (S:=fun k=>k=rb) BB.out)
 have HNW:=hid (hN.below BB.out);have HNB:=hid hB;have HSZ:=hid hsz
 have y0:=B0.out.lt
 clear h hN hB hsz
 have IH:=hid ih
 clear ih
 go_enter Tryz.func70,Tryz.ntmps70
 go_wp2_with (first
  | (go_at_call 110;refine (xword_cons W rb nb false ⟨#[97,110,100]⟩ rest HR.out).mono ?_;rintro e w1 ⟨rfl,hr,hk⟩;have R1:=hid hr;have K1:=hid (HK.out.trans hk fun _ _ c=>c);have B1:=hid (hk.blk B0.out (by show ¬ _=rb;omega));have N1:=hid (HNW.out.kept hk HNB.out.1 HNB.out.2.1 HNB.out.2.2);have y1:=hk.size;clear hr hk)
  | (go_at_call 113;refine (xlist_any n IH.out rest (by omega) (by simp at hw2;omega) (fun x hx=>HSZ.out x (List.mem_cons_of_mem _ hx)) w1 rb nb R1.out N1.out HNB.out (by omega)).mono ?_;rintro e w2 ⟨a,m,c,L,r2,fl,rfl,l2,l3,l4,l5,l6,l7,l8,hr,hy,hn,hs,hk⟩;have L2:=hid l2;have L3:=hid l3;have L6:=hid l6;have L7:=hid l7;have L8:=hid l8;have HY:=hid hy;have HN:=hid hn;have HS:=hid hs;have R2:=hid hr;have K2:=hid (K1.out.trans hk fun _ _ c=>c);have BX:=hid (hk.blk B1.out (by show ¬ _=rb;omega));clear l2 l3 l6 l7 l8 hr hk hy hn hs)
  | (refine wpList_store_row rfl 24 (.tmp 2) (.tmp 49) rfl w.heap.size #[.int .i64 9,.int .i64 0,.int .i64 0,.slice a m c] rfl rfl _ _ BX.out tmInfo rfl (tm_one _ _ _ _ _ _) ?_))
 have BR:=setRow_heap w2 w.heap.size _ #[.int .i64 9,.int .i64 0,.int .i64 0,.slice a m c] _ _ BX.out
 refine bodyPost_ret (results_cell_row rfl _ _ _ _ _ _ _ rfl BR Tryz.underlying24 rfl tmInfo) rfl ?_
 have hv:∀ g,w1.heap.size≤g→g<w2.heap.size→(w2.setRow w.heap.size #[.int .i64 9,.int .i64 0,.int .i64 0,.slice a m c]).heap[g]? = w2.heap[g]?:=fun g h1 h2=>setRow_other _ _ _ _ (by omega)
 refine ⟨.mk 9 0 0 a m c L,r2,fl,rfl,.mk _ _ _ _ _ _ _ (vw_setRow L2.out fun g off e=>by have:=L8.out g off e;omega) L3.out l4 l5 L6.out (fun k hk=>(L7.out k hk).1.far hv (L7.out k hk).2),.mk _ _ _ _ _ _ _ (fun g off e=>by have:=L8.out g off e;omega) (fun k hk=>(L7.out k hk).2.le (by omega)),R2.out.setRow (by omega) (by omega),fun e=>?_,fun e t r k=>?_,HS.out.trans (List.suffix_cons _ _),K2.out.setRowN (Nat.le_refl _)⟩
 ·obtain ⟨ws1,e1,e2⟩:=HY.out e
  rw [TmM.pl_mk]
  exact (rdi_list ho (by decide)).2 ⟨ws1,_,e1,e2,rfl⟩
 ·obtain ⟨ws1,ks,e1,e2,-⟩:=(rdi_list ho (by decide)).1 k
  exact HN.out e ws1 ks r e1 e2
theorem xterm_10 (n:Nat) (ih:Rg n) (rest:List ByteArray) (hw:rest.length≤n) (hw2:(⟨#[111,114]⟩ :: rest).length≤1000) (hsz:∀ x ∈ ⟨#[111,114]⟩ :: rest,x.size≤1000) (w:World) (rb nb:Nat) (h:TRx w rb nb (⟨#[111,114]⟩ :: rest) false) (hN:NumW w) (hB:NumB rb) (hnl:nb<w.heap.size):Calls Tryz.prog 70 #[.pointer (some ⟨rb,0,none⟩)] w (RgP w rb nb (⟨#[111,114]⟩ :: rest)):=by
 have ho:opV ⟨#[111,114]⟩=10:=by decide +kernel
 have hrl:=h.lt
 obtain ⟨W,hW⟩:∃ W,w.alloc (.cells #[.int .i64 0,.int .i64 0,.int .i64 0,.slice none 0 0] 24)=W:=⟨_,rfl⟩
 have B0:RowKit.Hid (Blk W w.heap.size 24 #[.int .i64 0,.int .i64 0,.int .i64 0,.slice none 0 0]):=by show Blk _ _ _ _;rw [← hW];exact Blk.new w _ _
 have BB:RowKit.Hid (Below w.heap.size w W):=by show Below _ _ _;rw [← hW];exact Bw.out
 have HR:=hid (h.behind BB.out)
 have HK:=hid (Kept.below (S:=fun k=>k=rb) BB.out)
 have HNW:=hid (hN.below BB.out);have HNB:=hid hB;have HSZ:=hid hsz
 have y0:=B0.out.lt
 clear h hN hB hsz
 have IH:=hid ih
 clear ih
 go_enter Tryz.func70,Tryz.ntmps70
 go_wp2_with (first
  | (go_at_call 110;refine (xword_cons W rb nb false ⟨#[111,114]⟩ rest HR.out).mono ?_;rintro e w1 ⟨rfl,hr,hk⟩;have R1:=hid hr;have K1:=hid (HK.out.trans hk fun _ _ c=>c);have B1:=hid (hk.blk B0.out (by show ¬ _=rb;omega));have N1:=hid (HNW.out.kept hk HNB.out.1 HNB.out.2.1 HNB.out.2.2);have y1:=hk.size;clear hr hk)
  | (go_at_call 113;refine (xlist_any n IH.out rest (by omega) (by simp at hw2;omega) (fun x hx=>HSZ.out x (List.mem_cons_of_mem _ hx)) w1 rb nb R1.out N1.out HNB.out (by omega)).mono ?_;rintro e w2 ⟨a,m,c,L,r2,fl,rfl,l2,l3,l4,l5,l6,l7,l8,hr,hy,hn,hs,hk⟩;have L2:=hid l2;have L3:=hid l3;have L6:=hid l6;have L7:=hid l7;have L8:=hid l8;have HY:=hid hy;have HN:=hid hn;have HS:=hid hs;have R2:=hid hr;have K2:=hid (K1.out.trans hk fun _ _ c=>c);have BX:=hid (hk.blk B1.out (by show ¬ _=rb;omega));clear l2 l3 l6 l7 l8 hr hk hy hn hs)
  | (refine wpList_store_row rfl 24 (.tmp 2) (.tmp 54) rfl w.heap.size #[.int .i64 10,.int .i64 0,.int .i64 0,.slice a m c] rfl rfl _ _ BX.out tmInfo rfl (tm_one _ _ _ _ _ _) ?_))
 have BR:=setRow_heap w2 w.heap.size _ #[.int .i64 10,.int .i64 0,.int .i64 0,.slice a m c] _ _ BX.out
 refine bodyPost_ret (results_cell_row rfl _ _ _ _ _ _ _ rfl BR Tryz.underlying24 rfl tmInfo) rfl ?_
 have hv:∀ g,w1.heap.size≤g→g<w2.heap.size→(w2.setRow w.heap.size #[.int .i64 10,.int .i64 0,.int .i64 0,.slice a m c]).heap[g]? = w2.heap[g]?:=fun g h1 h2=>setRow_other _ _ _ _ (by omega)
 refine ⟨.mk 10 0 0 a m c L,r2,fl,rfl,.mk _ _ _ _ _ _ _ (vw_setRow L2.out fun g off e=>by have:=L8.out g off e;omega) L3.out l4 l5 L6.out (fun k hk=>(L7.out k hk).1.far hv (L7.out k hk).2),.mk _ _ _ _ _ _ _ (fun g off e=>by have:=L8.out g off e;omega) (fun k hk=>(L7.out k hk).2.le (by omega)),R2.out.setRow (by omega) (by omega),fun e=>?_,fun e t r k=>?_,HS.out.trans (List.suffix_cons _ _),K2.out.setRowN (Nat.le_refl _)⟩
 ·obtain ⟨ws1,e1,e2⟩:=HY.out e
  rw [TmM.pl_mk]
  exact (rdi_list ho (by decide)).2 ⟨ws1,_,e1,e2,rfl⟩
 ·obtain ⟨ws1,ks,e1,e2,-⟩:=(rdi_list ho (by decide)).1 k
  exact HN.out e ws1 ks r e1 e2
theorem xterm_11 (n:Nat) (ih:Rg n) (rest:List ByteArray) (hw:rest.length≤n) (hw2:(⟨#[110,111,116]⟩ :: rest).length≤1000) (hsz:∀ x ∈ ⟨#[110,111,116]⟩ :: rest,x.size≤1000) (w:World) (rb nb:Nat) (h:TRx w rb nb (⟨#[110,111,116]⟩ :: rest) false) (hN:NumW w) (hB:NumB rb) (hnl:nb<w.heap.size):Calls Tryz.prog 70 #[.pointer (some ⟨rb,0,none⟩)] w (RgP w rb nb (⟨#[110,111,116]⟩ :: rest)):=by
 have ho:opV ⟨#[110,111,116]⟩=11:=by decide +kernel
 have hrl:=h.lt
 obtain ⟨W,hW⟩:∃ W,w.alloc (.cells #[.int .i64 0,.int .i64 0,.int .i64 0,.slice none 0 0] 24)=W:=⟨_,rfl⟩
 have B0:RowKit.Hid (Blk W w.heap.size 24 #[.int .i64 0,.int .i64 0,.int .i64 0,.slice none 0 0]):=by show Blk _ _ _ _;rw [← hW];exact Blk.new w _ _
 have BB:RowKit.Hid (Below w.heap.size w W):=by show Below _ _ _;rw [← hW];exact Bw.out
 have HR:=hid (h.behind BB.out)
 have HK:=hid (Kept.below (S:=fun k=>k=rb) BB.out)
 have HNW:=hid (hN.below BB.out);have HNB:=hid hB;have HSZ:=hid hsz
 have y0:=B0.out.lt
 clear h hN hB hsz
 have IH:=hid ih
 clear ih
 go_enter Tryz.func70,Tryz.ntmps70
 go_wp2_with (first
  | (go_at_call 110;refine (xword_cons W rb nb false ⟨#[110,111,116]⟩ rest HR.out).mono ?_;rintro e w1 ⟨rfl,hr,hk⟩;have R1:=hid hr;have K1:=hid (HK.out.trans hk fun _ _ c=>c);have B1:=hid (hk.blk B0.out (by show ¬ _=rb;omega));have N1:=hid (HNW.out.kept hk HNB.out.1 HNB.out.2.1 HNB.out.2.2);have y1:=hk.size;clear hr hk)
  | (go_at_call 70;refine (IH.out rest hw (by simp at hw2;omega) (fun x hx=>HSZ.out x (List.mem_cons_of_mem _ hx)) w1 rb nb R1.out N1.out HNB.out (by omega)).mono ?_;rintro e w2 ⟨⟨op',num',more',a',n',c',kids'⟩,r2,fl,rfl,hok2,hfr2,hr2,hy,hn,hs,hk2⟩;have OK2:=hid hok2;have FR2:=hid hfr2;have R2:=hid hr2;have HY:=hid hy;have HN:=hid hn;have HS:=hid hs;have K2:=hid (K1.out.trans hk2 fun _ _ c=>c);have B2:=hid (hk2.blk B1.out (by show ¬ _=rb;omega));have y2:=hk2.size;dsimp only [encTm];clear hok2 hfr2 hr2 hk2 hy hn hs)
  | (refine bs_one elTm (by decide) rfl (.tmp 58) rfl #[.int .i64 op',.int .i64 num',.int .i64 more',.slice a' n' c'] rfl rfl ?_)
  | (refine wpList_store_row rfl 24 (.tmp 2) (.tmp 60) rfl w.heap.size #[.int .i64 11,.int .i64 0,.int .i64 0,.slice (some ⟨w2.heap.size,0,none⟩) 1 1] rfl rfl _ _ (B2.out.alloc _) tmInfo rfl (tm_one _ _ _ _ _ _) ?_))
 have BA:Below w2.heap.size w2 (w2.alloc (.cells #[.int .i64 op',.int .i64 num',.int .i64 more',.slice a' n' c'] 24)):=Bw.out
 have BX:=hid (B2.out.alloc (.cells #[.int .i64 op',.int .i64 num',.int .i64 more',.slice a' n' c'] 24))
 have BR:=setRow_heap (w2.alloc (.cells #[.int .i64 op',.int .i64 num',.int .i64 more',.slice a' n' c'] 24)) w.heap.size _ #[.int .i64 11,.int .i64 0,.int .i64 0,.slice (some ⟨w2.heap.size,0,none⟩) 1 1] _ _ BX.out
 refine bodyPost_ret (results_cell_row rfl _ _ _ _ _ _ _ rfl BR Tryz.underlying24 rfl tmInfo) rfl ?_
 have hv:∀ g,w1.heap.size≤g→g<(w2.alloc (.cells #[.int .i64 op',.int .i64 num',.int .i64 more',.slice a' n' c'] 24)).heap.size→((w2.alloc (.cells #[.int .i64 op',.int .i64 num',.int .i64 more',.slice a' n' c'] 24)).setRow w.heap.size #[.int .i64 11,.int .i64 0,.int .i64 0,.slice (some ⟨w2.heap.size,0,none⟩) 1 1]).heap[g]? = (w2.alloc (.cells #[.int .i64 op',.int .i64 num',.int .i64 more',.slice a' n' c'] 24)).heap[g]?:=fun g h1 h2=>setRow_other _ _ _ _ (by omega)
 refine ⟨.mk 11 0 0 (some ⟨w2.heap.size,0,none⟩) 1 1 [(.mk op' num' more' a' n' c' kids')],r2,fl,rfl,.mk _ _ _ _ _ _ _ ?_ rfl (Nat.le_refl _) (by decide) (fun h=>by cases h) (fun k hk=>by rw [List.mem_singleton.1 hk];exact (OK2.out.beh BA).far hv FR2.out),.mk _ _ _ _ _ _ _ (fun g off e=>by cases e;omega) (fun k hk=>by rw [List.mem_singleton.1 hk];exact FR2.out.le (by omega)),(R2.out.behind BA).setRow (by omega) (by omega),fun e=>?_,fun e t r k=>?_,HS.out.trans (List.suffix_cons _ _),(K2.out.behind BA).setRowN (Nat.le_refl _)⟩
 ·refine vw_setRow (g:=w.heap.size) (fun i v hi=>⟨_,0,rfl,?_⟩) fun g off e=>by cases e;omega
  rw [Nat.zero_add,(Blk.new w2 _ _).cell i]
  simpa [cellsOf,encTm] using hi
 ·rw [TmM.pl_mk]
  exact (rdi_not ho).2 ⟨_,HY.out e,rfl⟩
 ·obtain ⟨k',k1,-⟩:=(rdi_not ho).1 k
  exact HN.out e k' r k1
theorem xterm_0 (ws:List ByteArray) (s0:ByteArray) (hs0:ws.headD ⟨#[]⟩=s0) (h1:s0 ≠ ⟨#[116,114,117,101]⟩) (h2:s0 ≠ ⟨#[99,114,111,112]⟩) (h3:s0 ≠ ⟨#[102,97,109,105,108,121]⟩) (h4:s0 ≠ ⟨#[109,97,114,107]⟩) (h5:s0 ≠ ⟨#[122,111,110,101]⟩) (h6:s0 ≠ ⟨#[115,97,109,101]⟩) (h7:s0 ≠ ⟨#[98,101,102,111,114,101]⟩) (h8:s0 ≠ ⟨#[107,110,111,119,110]⟩) (h9:s0 ≠ ⟨#[97,110,100]⟩) (h10:s0 ≠ ⟨#[111,114]⟩) (h11:s0 ≠ ⟨#[110,111,116]⟩) (hno:∀ t r,¬ Rd ws t r) (w:World) (rb nb:Nat) (h:TRx w rb nb ws false) (hnl:nb<w.heap.size):Calls Tryz.prog 70 #[.pointer (some ⟨rb,0,none⟩)] w (RgP w rb nb ws):=by
 have n1:(s0.toList == [116,114,117,101])=false:=by have:=str_ne (t:=s0) (s:=⟨#[116,114,117,101]⟩) h1;rwa [show (⟨#[116,114,117,101]⟩:ByteArray).toList=[116,114,117,101] from ByteArray.toList_mk _] at this
 have n2:(s0.toList == [99,114,111,112])=false:=by have:=str_ne (t:=s0) (s:=⟨#[99,114,111,112]⟩) h2;rwa [show (⟨#[99,114,111,112]⟩:ByteArray).toList=[99,114,111,112] from ByteArray.toList_mk _] at this
 have n3:(s0.toList == [102,97,109,105,108,121])=false:=by have:=str_ne (t:=s0) (s:=⟨#[102,97,109,105,108,121]⟩) h3;rwa [show (⟨#[102,97,109,105,108,121]⟩:ByteArray).toList=[102,97,109,105,108,121] from ByteArray.toList_mk _] at this
 have n4:(s0.toList == [109,97,114,107])=false:=by have:=str_ne (t:=s0) (s:=⟨#[109,97,114,107]⟩) h4;rwa [show (⟨#[109,97,114,107]⟩:ByteArray).toList=[109,97,114,107] from ByteArray.toList_mk _] at this
 have n5:(s0.toList == [122,111,110,101])=false:=by have:=str_ne (t:=s0) (s:=⟨#[122,111,110,101]⟩) h5;rwa [show (⟨#[122,111,110,101]⟩:ByteArray).toList=[122,111,110,101] from ByteArray.toList_mk _] at this
 have n6:(s0.toList == [115,97,109,101])=false:=by have:=str_ne (t:=s0) (s:=⟨#[115,97,109,101]⟩) h6;rwa [show (⟨#[115,97,109,101]⟩:ByteArray).toList=[115,97,109,101] from ByteArray.toList_mk _] at this
 have n7:(s0.toList == [98,101,102,111,114,101])=false:=by have:=str_ne (t:=s0) (s:=⟨#[98,101,102,111,114,101]⟩) h7;rwa [show (⟨#[98,101,102,111,114,101]⟩:ByteArray).toList=[98,101,102,111,114,101] from ByteArray.toList_mk _] at this
 have n8:(s0.toList == [107,110,111,119,110])=false:=by have:=str_ne (t:=s0) (s:=⟨#[107,110,111,119,110]⟩) h8;rwa [show (⟨#[107,110,111,119,110]⟩:ByteArray).toList=[107,110,111,119,110] from ByteArray.toList_mk _] at this
 have n9:(s0.toList == [97,110,100])=false:=by have:=str_ne (t:=s0) (s:=⟨#[97,110,100]⟩) h9;rwa [show (⟨#[97,110,100]⟩:ByteArray).toList=[97,110,100] from ByteArray.toList_mk _] at this
 have n10:(s0.toList == [111,114])=false:=by have:=str_ne (t:=s0) (s:=⟨#[111,114]⟩) h10;rwa [show (⟨#[111,114]⟩:ByteArray).toList=[111,114] from ByteArray.toList_mk _] at this
 have n11:(s0.toList == [110,111,116])=false:=by have:=str_ne (t:=s0) (s:=⟨#[110,111,116]⟩) h11;rwa [show (⟨#[110,111,116]⟩:ByteArray).toList=[110,111,116] from ByteArray.toList_mk _] at this
 have hrl:=h.lt
 obtain ⟨W,hW⟩:∃ W,w.alloc (.cells #[.int .i64 0,.int .i64 0,.int .i64 0,.slice none 0 0] 24)=W:=⟨_,rfl⟩
 have B0:RowKit.Hid (Blk W w.heap.size 24 #[.int .i64 0,.int .i64 0,.int .i64 0,.slice none 0 0]):=by show Blk _ _ _ _;rw [← hW];exact Blk.new w _ _
 have BB:RowKit.Hid (Below w.heap.size w W):=by show Below _ _ _;rw [← hW];exact Bw.out
 have HK:=hid (Kept.below (S:=fun k=>k=rb) BB.out)
 have HW:=hid (xword_any W rb nb ws false (h.behind BB.out))
 rw [hs0] at HW
 obtain ⟨fl1,hf1⟩:∃ b,(false || ws.isEmpty)=b:=⟨_,rfl⟩
 have HSUF:=hid (suff_tail ws);have HNO:=hid hno
 obtain ⟨tl,htl⟩:∃ l,ws.tail=l:=⟨_,rfl⟩
 rw [hf1,htl] at HW
 rw [htl] at HSUF
 have y0:=B0.out.lt
 clear h hs0 hf1 htl hno h1 h2 h3 h4 h5 h6 h7 h8 h9 h10 h11
 go_enter Tryz.func70,Tryz.ntmps70
 go_wp2_with (first
  | (go_at_call 110;refine HW.out.mono ?_;rintro e w1 ⟨rfl,hr,hk⟩;have R1:=hid hr;have K1:=hid (HK.out.trans hk fun _ _ c=>c);have B1:=hid (hk.blk B0.out (by show ¬ _=rb;omega));have x1:=hr.flag;have x2:=hr.free;have y1:=hr.lt;have y2:=hk.size;clear hr hk)
  | (refine wpList_store_row rfl 24 (.tmp 2) (.tmp 64) rfl w.heap.size #[.int .i64 0,.int .i64 0,.int .i64 0,.slice none 0 0] rfl rfl _ _ (Kept.blk (S:=fun k=>k=rb) ((Kept.refl _ _).set rfl) B1.out (by show ¬ _=rb;omega)) tmInfo rfl (tm_one _ _ _ _ _ _) ?_))
 have BX:=hid (Kept.blk (S:=fun k=>k=rb) ((Kept.refl _ w1).set (g:=rb) (o:=1) (v:=.bool true) rfl) B1.out (by show ¬ _=rb;omega))
 have BR:=setRow_heap _ w.heap.size _ #[.int .i64 0,.int .i64 0,.int .i64 0,.slice none 0 0] _ _ BX.out
 refine bodyPost_ret (results_cell_row rfl _ _ _ _ _ _ _ rfl BR Tryz.underlying24 rfl tmInfo) rfl ?_
 exact ⟨.mk 0 0 0 none 0 0 [],tl,true,rfl,leafOk,leafFr,R1.out.put.setRow (by omega) (by omega),(fun h=>by cases h),fun _=>HNO.out,HSUF.out,(K1.out.set rfl).setRowN (Nat.le_refl _)⟩
theorem rg_all (n:Nat):Rg n:=by
 induction n with
 | zero =>
  intro ws hn h1 h2 w rb nb h3 h4 h5 h6
  obtain rfl:ws=[]:=List.eq_nil_of_length_eq_zero (by omega)
  exact xterm_0 [] ⟨#[]⟩ rfl (by decide) (by decide) (by decide) (by decide) (by decide) (by decide) (by decide) (by decide) (by decide) (by decide) (by decide) (fun t r=>Rd.no_nil) w rb nb h3 h6
 | succ n ih =>
  intro ws hn h1 h2 w rb nb h3 h4 h5 h6
  cases ws with
  | nil=>exact xterm_0 [] ⟨#[]⟩ rfl (by decide) (by decide) (by decide) (by decide) (by decide) (by decide) (by decide) (by decide) (by decide) (by decide) (by decide) (fun t r=>Rd.no_nil) w rb nb h3 h6
  | cons s rest =>
   rcases opV_cases s with ⟨_,rfl⟩ | ⟨_,rfl⟩ | ⟨_,rfl⟩ | ⟨_,rfl⟩ | ⟨_,rfl⟩ | ⟨_,rfl⟩ | ⟨_,rfl⟩ | ⟨_,rfl⟩ | ⟨_,rfl⟩ | ⟨_,rfl⟩ | ⟨_,rfl⟩ | ⟨h0,n1,n2,n3,n4,n5,n6,n7,n8,n9,n10,n11⟩
   ·exact xterm_1 rest h1 h2 w rb nb h3 h4 h5 h6
   ·exact xterm_2 rest h1 h2 w rb nb h3 h4 h5 h6
   ·exact xterm_3 rest h1 h2 w rb nb h3 h4 h5 h6
   ·exact xterm_4 rest h1 h2 w rb nb h3 h4 h5 h6
   ·exact xterm_5 rest h1 h2 w rb nb h3 h4 h5 h6
   ·exact xterm_6 rest h1 h2 w rb nb h3 h4 h5 h6
   ·exact xterm_7 rest h1 h2 w rb nb h3 h4 h5 h6
   ·exact xterm_8 rest h1 h2 w rb nb h3 h4 h5 h6
   ·exact xterm_9 n ih rest (by simpa using hn) h1 h2 w rb nb h3 h4 h5 h6
   ·exact xterm_10 n ih rest (by simpa using hn) h1 h2 w rb nb h3 h4 h5 h6
   ·exact xterm_11 n ih rest (by simpa using hn) h1 h2 w rb nb h3 h4 h5 h6
   ·exact xterm_0 (s :: rest) s rfl n1 n2 n3 n4 n5 n6 n7 n8 n9 n10 n11 (fun t r=>rdi_zero h0) w rb nb h3 h6
end Go.Proofs.YtancajcelmhnkaaGreatDoor
