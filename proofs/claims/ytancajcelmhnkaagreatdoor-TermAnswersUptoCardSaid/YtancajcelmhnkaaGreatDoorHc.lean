/- term.Words and term.Print at a valid term. -/
import Derived.Test.YtancajcelmhnkaaGreatDoorHb
import Derived.Test.YtancajcelmhnkaaGreatDoorGw
set_option maxRecDepth 100000
set_option maxHeartbeats 4000000
namespace Go.Proofs.YtancajcelmhnkaaGreatDoor
open Go.RowKit Go.Sort Go.Shelf
set_option linter.unusedVariables false
set_option linter.unusedSimpArgs false
theorem prints_any (t:TmM):t.pl.form=true→t.pl.size≤1000→∀ w:World,TmOk w t→Calls Tryz.prog 109 #[.agg (encTm t).toArray] w (NewW w t.pl.words):=by
 induction t using TmM.ind with
 | h op num more a n c kids ih =>
  intro hf hs w hT
  have hln:=hT.len
  rw [TmM.pl_mk] at hf hs
  obtain ⟨hfo,hfk⟩:=form_kid hf
  rw [Tm.size] at hs
  rw [List.length_map] at hfo
  have ih':∀ k ∈ kids,Prints k:=fun k hk w' hw'=>ih k hk (hfk _ (List.mem_map.2 ⟨k,hk,rfl⟩)) (by have:=Tm.sizes_mem (List.mem_map.2 ⟨k,hk,rfl⟩:k.pl ∈ kids.map TmM.pl);omega) w' hw'
  have leaf:op ≠ 9→op ≠ 10→op ≠ 11→kids=[]:=fun h1 h2 h3=>by
   unfold formB at hfo
   rw [Bool.and_eq_true,Bool.and_eq_true] at hfo
   have:=hfo.2
   rw [if_neg (by omega)] at this
   exact List.eq_nil_of_length_eq_zero (of_decide_eq_true this)
  have zeros:op=9∨op=10∨op=11→num=0∧more=0:=fun h=>by
   unfold formB at hfo
   rcases h with rfl | rfl | rfl <;> simp at hfo <;> omega
  rcases formB_op hfo with rfl | rfl | rfl | rfl | rfl | rfl | rfl | rfl | ⟨rfl | rfl,_⟩ | ⟨rfl,h1⟩
  iterate 8 (obtain rfl:=leaf (by decide) (by decide) (by decide);first | exact prints_1 _ _ _ _ _ hfo w hT | exact prints_2 _ _ _ _ _ hfo w hT | exact prints_3 _ _ _ _ _ hfo w hT | exact prints_4 _ _ _ _ _ hfo w hT | exact prints_5 _ _ _ _ _ hfo w hT | exact prints_6 _ _ _ _ _ hfo w hT | exact prints_7 _ _ _ _ _ hfo w hT | exact prints_8 _ _ _ _ _ hfo w hT)
  ·obtain ⟨rfl,rfl⟩:=zeros (.inl rfl)
   exact prints_9 kids ih' a n c hln (by omega) w hT
  ·obtain ⟨rfl,rfl⟩:=zeros (.inr (.inl rfl))
   exact prints_10 kids ih' a n c hln (by omega) w hT
  ·obtain ⟨rfl,rfl⟩:=zeros (.inr (.inr rfl))
   obtain ⟨k,rfl⟩:=List.length_eq_one_iff.1 h1
   obtain rfl:1=n:=hln
   exact prints_11 k (ih' k (List.mem_singleton.2 rfl)) a c (by
    have:=Tm.sizes_mem (List.mem_map.2 ⟨k,List.mem_singleton.2 rfl,rfl⟩:k.pl ∈ [k].map TmM.pl)
    omega) w hT
def PrwP (w:World) (l:List ByteArray) (e:Ending) (w':World):Prop:=∃ v,e=.returned (.tuple #[v,.int .i64 0])∧w'.ownsRow w.heap.size 9 1 v l.length (strCells l)∧Below w.heap.size w w'
theorem words_any (t:TmM) (w:World) (h:TmOk w t) (hk:chkT t.pl=0):Calls Tryz.prog 69 #[.agg (encTm t).toArray] w (PrwP w t.pl.words):=by
 have hz:=chkT_zero hk
 have HC:=hid fun W' (hW':Below w.heap.size w W')=>check_any t W' (h.beh hW')
 have HT:=hid fun W' (hW':Below w.heap.size w W')=>prints_any t hz.2 (by omega) W' (h.beh hW')
 rw [hk] at HC
 obtain ⟨tb,htb⟩:∃ tb,(encTm t).toArray=tb:=⟨_,rfl⟩
 have TI:RowKit.Hid ((Tryz.prog.info? 24).map (·.size)=some (encTm t).toArray.size):=encTm_info t
 rw [htb] at HC HT TI ⊢
 obtain ⟨l,hl⟩:∃ l,t.pl.words=l:=⟨_,rfl⟩
 rw [hl] at HT ⊢
 clear h hk hz htb hl
 obtain ⟨W,hW⟩:∃ W,w.alloc (.cells tb 24)=W:=⟨_,rfl⟩
 have B0:RowKit.Hid (Blk W w.heap.size 24 tb):=by show Blk _ _ _ _;rw [← hW];exact Blk.new w _ _
 have BB:RowKit.Hid (Below w.heap.size w W):=by show Below _ _ _;rw [← hW];exact Bw.out
 go_enter Tryz.func69,Tryz.ntmps69
 go_wp2_with (first
  | (refine wpList_load_row rfl 24 (.tmp 1) rfl w.heap.size rfl _ tb _ _ B0.out Tryz.underlying24 rfl TI.out ?_)
  | (go_at_call 40;refine (HC.out _ BB.out).mono ?_;rintro e w1 ⟨rfl,hb1⟩;have B1:=hid (B0.out.below hb1);have BB1:=hid (btr BB.out hb1);clear hb1)
  | (refine wpList_load_row rfl 24 (.tmp 1) rfl w.heap.size rfl _ tb _ _ B1.out Tryz.underlying24 rfl TI.out ?_)
  | (go_at_call 109;refine (HT.out _ BB1.out).mono ?_;rintro e w2 ⟨v,rfl,ho,hb2⟩;have HO:=hid ho;have BB2:=hid (btr BB1.out hb2);clear ho hb2))
 go_ret2
 exact ⟨_,rfl,own_base HO.out BB1.out.size,BB2.out⟩
theorem ba_nil (s:ByteArray):(⟨#[]⟩:ByteArray)++s=s:=ByteArray.empty_append
def joinK (l:List ByteArray) (k:Nat):ByteArray:=joinW (l.take k)
theorem joinK_zero (l:List ByteArray):joinK l 0=⟨#[]⟩:=rfl
theorem joinK_one {l:List ByteArray} (h:0<l.length):joinK l 1=l[0]:=by
 obtain ⟨a,t,rfl⟩:∃ a t,l=a :: t:=List.exists_cons_of_length_pos h
 rfl
theorem joinK_succ {l:List ByteArray} {k:Nat} (h:k<l.length) (h0:0<k):joinK l (k+1)=joinK l k++(⟨#[32]⟩:ByteArray)++l[k]:=by
 unfold joinK
 rw [List.take_succ_eq_append_getElem h,joinW_snoc]
 intro e
 have h2:(l.take k).length=0:=by rw [e];rfl
 rw [List.length_take] at h2
 omega
theorem joinK_all (l:List ByteArray):joinK l l.length=joinW l:=by unfold joinK;rw [List.take_length]
theorem print_any (t:TmM) (w:World) (h:TmOk w t) (hk:chkT t.pl=0):Calls Tryz.prog 34 #[.agg (encTm t).toArray] w fun e w'=>e=.returned (.tuple #[.string (joinW t.pl.words),.int .i64 0])∧Below w.heap.size w w':=by
 have hz:=chkT_zero hk
 have HT:=hid fun W' (hW':Below w.heap.size w W')=>words_any t W' (h.beh hW') hk
 have HSM:=hid (Tm.words_small t.pl hz.2)
 have hlen:t.pl.words.length≤120:=by have:=Tm.words_len t.pl;omega
 obtain ⟨tb,htb⟩:∃ tb,(encTm t).toArray=tb:=⟨_,rfl⟩
 have TI:RowKit.Hid ((Tryz.prog.info? 24).map (·.size)=some (encTm t).toArray.size):=encTm_info t
 rw [htb] at HT TI ⊢
 obtain ⟨l,hl⟩:∃ l,t.pl.words=l:=⟨_,rfl⟩
 rw [hl] at HT HSM hlen ⊢
 have HJ:RowKit.Hid (∀ k,(joinK l k).size≤840):=fun k=>by
  have h1:=joinW_size (l:=l.take k) fun s hs=>HSM.out s (List.mem_of_mem_take hs)
  rw [List.length_take] at h1
  show (joinW (l.take k)).size≤840
  omega
 clear h hk hz htb hl
 obtain ⟨W,hW⟩:∃ W,w.alloc (.cells tb 24)=W:=⟨_,rfl⟩
 have B0:RowKit.Hid (Blk W w.heap.size 24 tb):=by show Blk _ _ _ _;rw [← hW];exact Blk.new w _ _
 have BB:RowKit.Hid (Below w.heap.size w W):=by show Below _ _ _;rw [← hW];exact Bw.out
 obtain ⟨L,hL⟩:∃ L,l.length=L:=⟨_,rfl⟩
 rw [hL] at hlen
 have HL:=hid hL
 clear hL
 go_enter Tryz.func34,Tryz.ntmps34
 go_wp2_with (first
  | (refine wpList_load_row rfl 24 (.tmp 1) rfl w.heap.size rfl _ tb _ _ B0.out Tryz.underlying24 rfl TI.out ?_)
  | (go_at_call 69;refine (HT.out _ BB.out).mono ?_;rintro e w2 ⟨v,rfl,ho,hb2⟩;rw [HL.out] at ho;obtain ⟨a2,c2,rfl,hq1,hq2,-⟩:=own_form ho;have HO:=hid ho;have BB2:=hid (btr BB.out hb2);clear ho hb2))
 go_loopw [6,19] (fun v i wr=>∃ k:Nat,k≤L∧v=.string (joinK l k)∧i=.int .i64 k∧wr=w2) (fun _ i _=>L - (intOf i).toNat)
 case atStart=>exact ⟨0,Nat.zero_le _,rfl,rfl,rfl⟩
 case round =>
  obtain ⟨k,hkl,rfl,rfl,rfl⟩:=hrel
  have hj:=HJ.out k
  by_cases hlt:k<L
  ·have hke:k<l.length:=by rw [HL.out];exact hlt
   obtain ⟨b,off,rfl,hc⟩:=vw_of_own HO.out k (.string l[k]) (by simp [hke])
   have HK:=hid (fun h0:0<k=>joinK_succ hke h0)
   have HK0:=hid (fun h0:k=0=>by subst h0;exact joinK_one hke:k=0→joinK l 1=l[k])
   have hs:=HSM.out _ (List.getElem_mem hke)
   obtain ⟨s,hsl⟩:∃ s,l[k]=s:=⟨_,rfl⟩
   rw [hsl] at hc HK HK0 hs
   have HJ2:=HJ.out (k+1)
   clear hsl hke
   by_cases h0:k=0
   ·subst h0
    rw [joinK_zero] at hj ⊢
    rw [Nat.add_zero] at hc
    clear hj HJ2
    go_wp2
    go_roundw
    case rel=>exact ⟨1,by omega,by rw [HK0.out rfl,ba_nil],by go_num,by first | rfl | trivial⟩
    case measure=>simp [intOf];omega
   ·have h1:0<k:=by omega
    have HKK:=hid (HK.out h1)
    obtain ⟨a,ha⟩:∃ a,joinK l k=a:=⟨_,rfl⟩
    rw [ha] at hj HKK ⊢
    clear ha HK HK0 HJ2
    go_wp2
    go_roundw
    case rel=>exact ⟨k+1,by omega,by rw [HKK.out],by go_num,by first | rfl | trivial⟩
    case measure=>simp [intOf];omega
  ·obtain rfl:k=L:=by omega
   go_wp2
   go_ret2
   refine ⟨?_,BB2.out⟩
   show Ending.returned (.tuple #[.string (joinK l k),.int .i64 0])=_
   rw [← joinK_all l,HL.out]
def awT:Tm:=.mk 9 0 0 [.mk 4 16 0 [],.mk 11 0 0 [.mk 6 2 0 []]]
def awWords:List ByteArray:=[⟨#[97,110,100]⟩,⟨#[40]⟩,⟨#[109,97,114,107]⟩,⟨#[108]⟩,⟨#[110,111,116]⟩,⟨#[115,97,109,101]⟩,⟨#[50]⟩,⟨#[41]⟩]
theorem two_word:numWord 2=⟨#[50]⟩:=by
 unfold numWord
 have:Lib.decDigits (2:Int).toNat=[50]:=by decide +kernel
 rw [this]
theorem awT_words:awT.words=awWords:=by
 simp [awT,Tm.words_mk,opWord,leafWords,markWord,two_word,wAnd,wOpen,wMark,wNot,wSame,wClose,awWords]
theorem awT_join:joinW awWords=⟨#[97,110,100,32,40,32,109,97,114,107,32,108,32,110,111,116,32,115,97,109,101,32,50,32,41]⟩:=by decide +kernel
def awCr:List Crp:=[⟨⟨#[99,108,111,118,101,114]⟩,1,16⟩,⟨⟨#[119,104,101,97,116]⟩,2,0⟩]
def awLand:List Rc:=[(0,0,3,1)]
def awR0:List Rc:=[(0,0,1,1)]
def awR1:List Rc:=[(1,0,2,1)]
def awH:List Rcd:=[⟨0,0,awR0⟩,⟨0,1,awR1⟩]
def awE:Env:=⟨awLand,0,1,awCr,awH,[],0⟩
theorem can_one1 {q:Rc} (h1:q.1<q.2.2.1) (h2:q.2.1<q.2.2.2):IsCan (inRc [q]) [q]:=by
 obtain ⟨a,b,c,d⟩:=q
 exact IsCan.self (S:=inBd [(b,d,[(a,c)])]) ⟨[(b,d,[(a,c)])],⟨h2,by simp,⟨h1,by simp,trivial⟩,by simp,by simp,trivial⟩,rfl,fun x y=>Iff.rfl⟩
theorem inRc_one (q:Rc) (x y:Int):inRc [q] x y↔q.1≤x∧x<q.2.2.1∧q.2.1≤y∧y<q.2.2.2:=by
 unfold inRc
 constructor
 ·rintro ⟨r,hr,h⟩
  rw [List.mem_singleton.1 hr] at h;exact h
 ·intro h
  exact ⟨q,List.mem_singleton.2 rfl,h⟩
theorem vld_one {q:Rc} (h:Prp q):Vld [q]:=by
 refine ⟨by simp,fun r hr=>by rw [List.mem_singleton.1 hr];exact h,can_one1 ?_ ?_⟩
 ·unfold Prp at h;omega
 ·unfold Prp at h;omega
theorem vld_land:Vld awLand:=vld_one (by unfold Prp;decide)
theorem vld_r0:Vld awR0:=vld_one (by unfold Prp;decide)
theorem vld_r1:Vld awR1:=vld_one (by unfold Prp;decide)
theorem awR_iff (x y:Int):awE.R x y↔0≤x∧x<3∧0≤y∧y<1:=inRc_one _ x y
theorem aw_known (f:Int→Bool) (x y:Int):awE.known 1 f x y↔(0≤y∧y<1)∧((f 0=true∧0≤x∧x<1)∨(f 1=true∧1≤x∧x<2)):=by
 unfold Env.known Env.recs
 rw [awR_iff]
 constructor
 ·rintro ⟨h,r,hr,hy,hf,hi⟩
  have hr':r=⟨0,0,awR0⟩∨r=⟨0,1,awR1⟩:=by simpa [awE,awH] using hr
  rcases hr' with rfl | rfl
  ·have:=(inRc_one _ x y).1 hi
   exact ⟨by omega,.inl ⟨hf,this.1,this.2.1⟩⟩
  ·have:=(inRc_one _ x y).1 hi
   exact ⟨by omega,.inr ⟨hf,this.1,this.2.1⟩⟩
 ·rintro ⟨hy,⟨hf,h1,h2⟩ | ⟨hf,h1,h2⟩⟩
  ·exact ⟨by omega,⟨0,0,awR0⟩,by simp [awE,awH],rfl,hf,(inRc_one _ x y).2 ⟨h1,h2,hy.1,hy.2⟩⟩
  ·exact ⟨by omega,⟨0,1,awR1⟩,by simp [awE,awH],rfl,hf,(inRc_one _ x y).2 ⟨h1,h2,hy.1,hy.2⟩⟩
theorem aw_kin0:awE.kin 0=true:=by decide
theorem aw_kin1:awE.kin 1=false:=by decide
theorem aw_mark:awE.ev (.mk 4 16 0 [])=⟨awE.R,fun _ _=>False⟩:=by
 rw [Env.ev_mk]
 have h:hasMark awE.crops awE.crop 16=true:=by decide
 simp [Env.atom,h,Env.whole]
theorem aw_same_yes (x y:Int):(awE.ev (.mk 6 2 0 [])).yes x y↔(0≤y∧y<1)∧0≤x∧x<1:=by
 rw [Env.ev_mk]
 simp only [Env.atom]
 constructor
 ·rintro ⟨_,h⟩
  have:=(aw_known _ x y).1 (h 1 (by omega) (by omega))
  rw [aw_kin0,aw_kin1] at this
  rcases this with ⟨h1,⟨_,h2⟩ | ⟨h2,_⟩⟩
  ·exact ⟨h1,h2⟩
  ·cases h2
 ·rintro ⟨h1,h2⟩
  refine ⟨(awR_iff x y).2 (by omega),fun n n1 n2=>?_⟩
  obtain rfl:n=1:=by omega
  exact (aw_known _ x y).2 ⟨h1,.inl ⟨aw_kin0,h2⟩⟩
theorem aw_same_no (x y:Int):(awE.ev (.mk 6 2 0 [])).no x y↔(0≤y∧y<1)∧1≤x∧x<2:=by
 rw [Env.ev_mk]
 simp only [Env.atom]
 constructor
 ·rintro ⟨n,n1,n2,h⟩
  obtain rfl:n=1:=by omega
  have:=(aw_known _ x y).1 h
  rw [aw_kin0,aw_kin1] at this
  rcases this with ⟨h1,⟨h2,_⟩ | ⟨_,h2⟩⟩
  ·cases h2
  ·exact ⟨h1,h2⟩
 ·rintro ⟨h1,h2⟩
  exact ⟨1,by omega,by omega,(aw_known _ x y).2 ⟨h1,.inr ⟨by rw [aw_kin1];rfl,h2⟩⟩⟩
theorem aw_not:awE.ev (.mk 11 0 0 [.mk 6 2 0 []])=(awE.ev (.mk 6 2 0 [])).not:=by
 rw [Env.ev_mk];rfl
theorem aw_ev:awE.ev awT=awE.and [⟨awE.R,fun _ _=>False⟩,(awE.ev (.mk 6 2 0 [])).not]:=by
 unfold awT
 rw [Env.ev_mk,if_pos rfl]
 simp only [List.map_cons,List.map_nil,aw_mark,aw_not]
theorem aw_yes (x y:Int):(awE.ev awT).yes x y↔inRc awR1 x y:=by
 rw [aw_ev,show awR1=[(1,0,2,1)] from rfl,inRc_one]
 show _↔(1≤x∧x<2∧0≤y∧y<1)
 constructor
 ·rintro ⟨_,h⟩
  have:=(aw_same_no x y).1 (h (awE.ev (.mk 6 2 0 [])).not (by simp))
  omega
 ·intro h
  have hr:=(awR_iff x y).2 (by omega)
  refine ⟨hr,fun p hp=>?_⟩
  rcases List.mem_cons.1 hp with rfl | hp
  ·exact hr
  ·rw [List.mem_singleton.1 hp]
   exact (aw_same_no x y).2 (by omega)
theorem aw_no:(awE.ev awT).no 0 0:=by
 rw [aw_ev]
 exact ⟨(awE.ev (.mk 6 2 0 [])).not,by simp,(aw_same_yes 0 0).2 (by omega)⟩
theorem aw_open:awE.rest (awE.ev awT) 2 0:=by
 refine ⟨(awR_iff 2 0).2 (by omega),fun h=>?_,fun h=>?_⟩
 ·have h1:(1:Int)≤2∧(2:Int)<2∧(0:Int)≤0∧(0:Int)<1:=(inRc_one _ _ _).1 ((aw_yes 2 0).1 h)
  omega
 ·rw [aw_ev] at h
  obtain ⟨p,hp,h⟩:=h
  rcases List.mem_cons.1 hp with rfl | hp
  ·exact h
  ·rw [List.mem_singleton.1 hp] at h
   have:=(aw_same_yes 2 0).1 h
   omega
theorem aw_sorted:HistOk awH:=by
 refine .of (by decide) (fun r hr=>?_) ?_
 ·have hr':r=⟨0,0,awR0⟩∨r=⟨0,1,awR1⟩:=by simpa [awH] using hr
  rcases hr' with rfl | rfl
  ·exact ⟨by decide,by decide,by simp [awR0],vld_r0⟩
  ·exact ⟨by decide,by decide,by simp [awR1],vld_r1⟩
 ·refine List.pairwise_cons.2 ⟨fun s hs=>?_,List.pairwise_singleton _ _⟩
  rw [List.mem_singleton.1 hs]
  refine ⟨.inr ⟨rfl,by decide⟩,fun _ ⟨x,y,h1,h2⟩=>?_⟩
  have k1:=(inRc_one _ x y).1 h1
  have k2:=(inRc_one _ x y).1 h2
  simp only at k1 k2
  omega
end Go.Proofs.YtancajcelmhnkaaGreatDoor
