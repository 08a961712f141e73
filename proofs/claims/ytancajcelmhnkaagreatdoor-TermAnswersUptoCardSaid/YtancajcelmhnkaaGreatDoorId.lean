/- ref16.text at valid terms. -/
import Derived.Test.YtancajcelmhnkaaGreatDoorHc
import Derived.Test.YtancajcelmhnkaaGreatDoorIc
import Derived.Test.YtancajcelmhnkaaGreatDoorRchk
set_option maxRecDepth 100000
set_option maxHeartbeats 4000000
namespace Go.Proofs.YtancajcelmhnkaaGreatDoor
open Go.RowKit Go.Sort Go.Shelf
set_option linter.unusedVariables false
set_option linter.unusedSimpArgs false
def RTx (t:TmM):Prop:=∀ w:World,TmOk w t→Calls Tryz.prog 76 #[.agg (encTm t).toArray] w fun e w'=>e=.returned (.string (joinW t.pl.words))∧Below w.heap.size w w'
theorem numW_itoa {n:Int} (h:0≤n):(⟨(Lib.itoa n).toArray⟩:ByteArray)=numWord n:=by
 unfold Lib.itoa numWord;rw [if_neg (by omega)]
theorem mark_mk:∀ r:Fin 32,oneMark (r.val:Int)=true→mkByt r.val=markWord (r.val:Int):=by decide +kernel
theorem rtx_2 (num more:Int) (a:Option Addr) (n c:Nat) (hf:formB 2 num more 0=true):RTx (.mk 2 num more a n c []):=by
 intro w h
 obtain ⟨⟨h1,h2⟩,rfl⟩:(0≤num∧num≤39)∧more=0:=by simp [formB] at hf;exact hf
 have e0:(TmM.mk 2 num 0 a n c []).pl.words=[⟨#[99,114,111,112]⟩,numWord num]:=by
  rw [TmM.pl_mk,Tm.words_mk];simp [leafWords,opWord,wCrop]
 have HO:RowKit.Hid (∀ W:World,Calls Tryz.prog 115 #[.int .i64 2] W fun e w'=>e=.returned (.string ⟨#[99,114,111,112]⟩)∧Below W.heap.size W w'):=hid fun W=>rops_any 2 (by decide) (by decide) W
 have HD:=hid fun W=>rdec_any 20 num (by simp;omega) (by omega) (by omega) W
 have hsz:=numWord_size (n:=num) (by omega) (by omega)
 rw [numW_itoa (by omega)] at HD
 rw [e0]
 show Calls Tryz.prog _ #[.agg #[.int .i64 2,.int .i64 num,.int .i64 0,.slice a n c]] w _
 obtain ⟨t,ht⟩:∃ t,numWord num=t:=⟨_,rfl⟩
 rw [ht] at HD hsz ⊢
 clear ht h e0 hf
 obtain ⟨W,hW⟩:∃ W,w.alloc (.cells #[.int .i64 2,.int .i64 num,.int .i64 0,.slice a n c] 24)=W:=⟨_,rfl⟩
 have B0:RowKit.Hid (Blk W w.heap.size 24 #[.int .i64 2,.int .i64 num,.int .i64 0,.slice a n c]):=by show Blk _ _ _ _;rw [← hW];exact Blk.new w _ _
 have BB:RowKit.Hid (Below w.heap.size w W):=by show Below _ _ _;rw [← hW];exact Bw.out
 have x0:W.cell? ⟨w.heap.size,0,none⟩=some (.int .i64 2):=B0.out.cell 0
 go_enter Tryz.func76,Tryz.ntmps76
 go_wp2_with (first
  | (go_at_call 115;(with_reducible refine (HO.out _).mono ?_);rintro e w1 ⟨rfl,hb⟩;have B1:=hid (B0.out.below hb);have x0':w1.cell? ⟨w.heap.size,0,none⟩=some (.int .i64 2):=B1.out.cell 0;have x1':w1.cell? ⟨w.heap.size,1,none⟩=some (.int .i64 num):=B1.out.cell 1;have B1':=hid (btr BB.out hb);clear hb)
  | (go_at_call 117;(with_reducible refine (HD.out _).mono ?_);rintro e w2 ⟨rfl,hb⟩;have B2':=hid (btr B1'.out hb);clear hb))
 go_ret
 exact ⟨rfl,B2'.out⟩
theorem rtx_3 (num more:Int) (a:Option Addr) (n c:Nat) (hf:formB 3 num more 0=true):RTx (.mk 3 num more a n c []):=by
 intro w h
 obtain ⟨⟨h1,h2⟩,rfl⟩:(0≤num∧num≤40)∧more=0:=by simp [formB] at hf;exact hf
 have e0:(TmM.mk 3 num 0 a n c []).pl.words=[⟨#[102,97,109,105,108,121]⟩,numWord num]:=by
  rw [TmM.pl_mk,Tm.words_mk];simp [leafWords,opWord,wFamily]
 have HO:RowKit.Hid (∀ W:World,Calls Tryz.prog 115 #[.int .i64 3] W fun e w'=>e=.returned (.string ⟨#[102,97,109,105,108,121]⟩)∧Below W.heap.size W w'):=hid fun W=>rops_any 3 (by decide) (by decide) W
 have HD:=hid fun W=>rdec_any 20 num (by simp;omega) (by omega) (by omega) W
 have hsz:=numWord_size (n:=num) (by omega) (by omega)
 rw [numW_itoa (by omega)] at HD
 rw [e0]
 show Calls Tryz.prog _ #[.agg #[.int .i64 3,.int .i64 num,.int .i64 0,.slice a n c]] w _
 obtain ⟨t,ht⟩:∃ t,numWord num=t:=⟨_,rfl⟩
 rw [ht] at HD hsz ⊢
 clear ht h e0 hf
 obtain ⟨W,hW⟩:∃ W,w.alloc (.cells #[.int .i64 3,.int .i64 num,.int .i64 0,.slice a n c] 24)=W:=⟨_,rfl⟩
 have B0:RowKit.Hid (Blk W w.heap.size 24 #[.int .i64 3,.int .i64 num,.int .i64 0,.slice a n c]):=by show Blk _ _ _ _;rw [← hW];exact Blk.new w _ _
 have BB:RowKit.Hid (Below w.heap.size w W):=by show Below _ _ _;rw [← hW];exact Bw.out
 have x0:W.cell? ⟨w.heap.size,0,none⟩=some (.int .i64 3):=B0.out.cell 0
 go_enter Tryz.func76,Tryz.ntmps76
 go_wp2_with (first
  | (go_at_call 115;(with_reducible refine (HO.out _).mono ?_);rintro e w1 ⟨rfl,hb⟩;have B1:=hid (B0.out.below hb);have x0':w1.cell? ⟨w.heap.size,0,none⟩=some (.int .i64 3):=B1.out.cell 0;have x1':w1.cell? ⟨w.heap.size,1,none⟩=some (.int .i64 num):=B1.out.cell 1;have B1':=hid (btr BB.out hb);clear hb)
  | (go_at_call 117;(with_reducible refine (HD.out _).mono ?_);rintro e w2 ⟨rfl,hb⟩;have B2':=hid (btr B1'.out hb);clear hb))
 go_ret
 exact ⟨rfl,B2'.out⟩
theorem rtx_5 (num more:Int) (a:Option Addr) (n c:Nat) (hf:formB 5 num more 0=true):RTx (.mk 5 num more a n c []):=by
 intro w h
 obtain ⟨⟨h1,h2⟩,rfl⟩:(0≤num∧num≤15)∧more=0:=by simp [formB] at hf;exact hf
 have e0:(TmM.mk 5 num 0 a n c []).pl.words=[⟨#[122,111,110,101]⟩,numWord num]:=by
  rw [TmM.pl_mk,Tm.words_mk];simp [leafWords,opWord,wZone]
 have HO:RowKit.Hid (∀ W:World,Calls Tryz.prog 115 #[.int .i64 5] W fun e w'=>e=.returned (.string ⟨#[122,111,110,101]⟩)∧Below W.heap.size W w'):=hid fun W=>rops_any 5 (by decide) (by decide) W
 have HD:=hid fun W=>rdec_any 20 num (by simp;omega) (by omega) (by omega) W
 have hsz:=numWord_size (n:=num) (by omega) (by omega)
 rw [numW_itoa (by omega)] at HD
 rw [e0]
 show Calls Tryz.prog _ #[.agg #[.int .i64 5,.int .i64 num,.int .i64 0,.slice a n c]] w _
 obtain ⟨t,ht⟩:∃ t,numWord num=t:=⟨_,rfl⟩
 rw [ht] at HD hsz ⊢
 clear ht h e0 hf
 obtain ⟨W,hW⟩:∃ W,w.alloc (.cells #[.int .i64 5,.int .i64 num,.int .i64 0,.slice a n c] 24)=W:=⟨_,rfl⟩
 have B0:RowKit.Hid (Blk W w.heap.size 24 #[.int .i64 5,.int .i64 num,.int .i64 0,.slice a n c]):=by show Blk _ _ _ _;rw [← hW];exact Blk.new w _ _
 have BB:RowKit.Hid (Below w.heap.size w W):=by show Below _ _ _;rw [← hW];exact Bw.out
 have x0:W.cell? ⟨w.heap.size,0,none⟩=some (.int .i64 5):=B0.out.cell 0
 go_enter Tryz.func76,Tryz.ntmps76
 go_wp2_with (first
  | (go_at_call 115;(with_reducible refine (HO.out _).mono ?_);rintro e w1 ⟨rfl,hb⟩;have B1:=hid (B0.out.below hb);have x0':w1.cell? ⟨w.heap.size,0,none⟩=some (.int .i64 5):=B1.out.cell 0;have x1':w1.cell? ⟨w.heap.size,1,none⟩=some (.int .i64 num):=B1.out.cell 1;have B1':=hid (btr BB.out hb);clear hb)
  | (go_at_call 117;(with_reducible refine (HD.out _).mono ?_);rintro e w2 ⟨rfl,hb⟩;have B2':=hid (btr B1'.out hb);clear hb))
 go_ret
 exact ⟨rfl,B2'.out⟩
theorem rtx_6 (num more:Int) (a:Option Addr) (n c:Nat) (hf:formB 6 num more 0=true):RTx (.mk 6 num more a n c []):=by
 intro w h
 obtain ⟨⟨h1,h2⟩,rfl⟩:(2≤num∧num≤10)∧more=0:=by simp [formB] at hf;exact hf
 have e0:(TmM.mk 6 num 0 a n c []).pl.words=[⟨#[115,97,109,101]⟩,numWord num]:=by
  rw [TmM.pl_mk,Tm.words_mk];simp [leafWords,opWord,wSame]
 have HO:RowKit.Hid (∀ W:World,Calls Tryz.prog 115 #[.int .i64 6] W fun e w'=>e=.returned (.string ⟨#[115,97,109,101]⟩)∧Below W.heap.size W w'):=hid fun W=>rops_any 6 (by decide) (by decide) W
 have HD:=hid fun W=>rdec_any 20 num (by simp;omega) (by omega) (by omega) W
 have hsz:=numWord_size (n:=num) (by omega) (by omega)
 rw [numW_itoa (by omega)] at HD
 rw [e0]
 show Calls Tryz.prog _ #[.agg #[.int .i64 6,.int .i64 num,.int .i64 0,.slice a n c]] w _
 obtain ⟨t,ht⟩:∃ t,numWord num=t:=⟨_,rfl⟩
 rw [ht] at HD hsz ⊢
 clear ht h e0 hf
 obtain ⟨W,hW⟩:∃ W,w.alloc (.cells #[.int .i64 6,.int .i64 num,.int .i64 0,.slice a n c] 24)=W:=⟨_,rfl⟩
 have B0:RowKit.Hid (Blk W w.heap.size 24 #[.int .i64 6,.int .i64 num,.int .i64 0,.slice a n c]):=by show Blk _ _ _ _;rw [← hW];exact Blk.new w _ _
 have BB:RowKit.Hid (Below w.heap.size w W):=by show Below _ _ _;rw [← hW];exact Bw.out
 have x0:W.cell? ⟨w.heap.size,0,none⟩=some (.int .i64 6):=B0.out.cell 0
 go_enter Tryz.func76,Tryz.ntmps76
 go_wp2_with (first
  | (go_at_call 115;(with_reducible refine (HO.out _).mono ?_);rintro e w1 ⟨rfl,hb⟩;have B1:=hid (B0.out.below hb);have x0':w1.cell? ⟨w.heap.size,0,none⟩=some (.int .i64 6):=B1.out.cell 0;have x1':w1.cell? ⟨w.heap.size,1,none⟩=some (.int .i64 num):=B1.out.cell 1;have B1':=hid (btr BB.out hb);clear hb)
  | (go_at_call 117;(with_reducible refine (HD.out _).mono ?_);rintro e w2 ⟨rfl,hb⟩;have B2':=hid (btr B1'.out hb);clear hb))
 go_ret
 exact ⟨rfl,B2'.out⟩
theorem rtx_8 (num more:Int) (a:Option Addr) (n c:Nat) (hf:formB 8 num more 0=true):RTx (.mk 8 num more a n c []):=by
 intro w h
 obtain ⟨⟨h1,h2⟩,rfl⟩:(1≤num∧num≤10)∧more=0:=by simp [formB] at hf;exact hf
 have e0:(TmM.mk 8 num 0 a n c []).pl.words=[⟨#[107,110,111,119,110]⟩,numWord num]:=by
  rw [TmM.pl_mk,Tm.words_mk];simp [leafWords,opWord,wKnown]
 have HO:RowKit.Hid (∀ W:World,Calls Tryz.prog 115 #[.int .i64 8] W fun e w'=>e=.returned (.string ⟨#[107,110,111,119,110]⟩)∧Below W.heap.size W w'):=hid fun W=>rops_any 8 (by decide) (by decide) W
 have HD:=hid fun W=>rdec_any 20 num (by simp;omega) (by omega) (by omega) W
 have hsz:=numWord_size (n:=num) (by omega) (by omega)
 rw [numW_itoa (by omega)] at HD
 rw [e0]
 show Calls Tryz.prog _ #[.agg #[.int .i64 8,.int .i64 num,.int .i64 0,.slice a n c]] w _
 obtain ⟨t,ht⟩:∃ t,numWord num=t:=⟨_,rfl⟩
 rw [ht] at HD hsz ⊢
 clear ht h e0 hf
 obtain ⟨W,hW⟩:∃ W,w.alloc (.cells #[.int .i64 8,.int .i64 num,.int .i64 0,.slice a n c] 24)=W:=⟨_,rfl⟩
 have B0:RowKit.Hid (Blk W w.heap.size 24 #[.int .i64 8,.int .i64 num,.int .i64 0,.slice a n c]):=by show Blk _ _ _ _;rw [← hW];exact Blk.new w _ _
 have BB:RowKit.Hid (Below w.heap.size w W):=by show Below _ _ _;rw [← hW];exact Bw.out
 have x0:W.cell? ⟨w.heap.size,0,none⟩=some (.int .i64 8):=B0.out.cell 0
 go_enter Tryz.func76,Tryz.ntmps76
 go_wp2_with (first
  | (go_at_call 115;(with_reducible refine (HO.out _).mono ?_);rintro e w1 ⟨rfl,hb⟩;have B1:=hid (B0.out.below hb);have x0':w1.cell? ⟨w.heap.size,0,none⟩=some (.int .i64 8):=B1.out.cell 0;have x1':w1.cell? ⟨w.heap.size,1,none⟩=some (.int .i64 num):=B1.out.cell 1;have B1':=hid (btr BB.out hb);clear hb)
  | (go_at_call 117;(with_reducible refine (HD.out _).mono ?_);rintro e w2 ⟨rfl,hb⟩;have B2':=hid (btr B1'.out hb);clear hb))
 go_ret
 exact ⟨rfl,B2'.out⟩
theorem rtx_1 (num more:Int) (a:Option Addr) (n c:Nat) (hf:formB 1 num more 0=true):RTx (.mk 1 num more a n c []):=by
 intro w h
 obtain ⟨rfl,rfl⟩:num=0∧more=0:=by simp [formB] at hf;exact hf
 have e0:(TmM.mk 1 0 0 a n c []).pl.words=[⟨#[116,114,117,101]⟩]:=by
  rw [TmM.pl_mk,Tm.words_mk];simp [leafWords,opWord,wTrue]
 have HO:RowKit.Hid (∀ W:World,Calls Tryz.prog 115 #[.int .i64 1] W fun e w'=>e=.returned (.string ⟨#[116,114,117,101]⟩)∧Below W.heap.size W w'):=hid fun W=>rops_any 1 (by decide) (by decide) W
 rw [e0]
 show Calls Tryz.prog _ #[.agg #[.int .i64 1,.int .i64 0,.int .i64 0,.slice a n c]] w _
 clear h e0 hf
 obtain ⟨W,hW⟩:∃ W,w.alloc (.cells #[.int .i64 1,.int .i64 0,.int .i64 0,.slice a n c] 24)=W:=⟨_,rfl⟩
 have B0:RowKit.Hid (Blk W w.heap.size 24 #[.int .i64 1,.int .i64 0,.int .i64 0,.slice a n c]):=by show Blk _ _ _ _;rw [← hW];exact Blk.new w _ _
 have BB:RowKit.Hid (Below w.heap.size w W):=by show Below _ _ _;rw [← hW];exact Bw.out
 have x0:W.cell? ⟨w.heap.size,0,none⟩=some (.int .i64 1):=B0.out.cell 0
 go_enter Tryz.func76,Tryz.ntmps76
 go_wp2_with (go_at_call 115;(with_reducible refine (HO.out _).mono ?_);rintro e w1 ⟨rfl,hb⟩;have B1:=hid (B0.out.below hb);have x0':w1.cell? ⟨w.heap.size,0,none⟩=some (.int .i64 1):=B1.out.cell 0;have B1':=hid (btr BB.out hb);clear hb)
 go_ret
 exact ⟨rfl,B1'.out⟩
theorem rtx_4 (num more:Int) (a:Option Addr) (n c:Nat) (hf:formB 4 num more 0=true):RTx (.mk 4 num more a n c []):=by
 intro w h
 obtain ⟨hm,rfl⟩:oneMark num=true∧more=0:=by simp [formB] at hf;exact hf
 have e0:(TmM.mk 4 num 0 a n c []).pl.words=[⟨#[109,97,114,107]⟩,markWord num]:=by
  rw [TmM.pl_mk,Tm.words_mk];simp [leafWords,opWord,wMark]
 have HO:RowKit.Hid (∀ W:World,Calls Tryz.prog 115 #[.int .i64 4] W fun e w'=>e=.returned (.string ⟨#[109,97,114,107]⟩)∧Below W.heap.size W w'):=hid fun W=>rops_any 4 (by decide) (by decide) W
 have HM:RowKit.Hid (∀ W:World,Calls Tryz.prog 116 #[.int .i64 num] W fun e w'=>e=.returned (.string (markWord num))∧w'=W):=hid fun W=>by
  obtain ⟨r,hr⟩:∃ r:Nat,num=(r:Int):=⟨num.toNat,by rcases oneMark_cases hm with h | h | h | h | h <;> omega⟩
  have hl:r<32:=by rcases oneMark_cases hm with h | h | h | h | h <;> omega
  have e:=mark_mk ⟨r,hl⟩ (by simpa [← hr] using hm)
  simp only at e
  rw [hr,← e]
  exact rmarks_any r hl W
 have hsz:=markWord_size num
 rw [e0]
 show Calls Tryz.prog _ #[.agg #[.int .i64 4,.int .i64 num,.int .i64 0,.slice a n c]] w _
 obtain ⟨t,ht⟩:∃ t,markWord num=t:=⟨_,rfl⟩
 rw [ht] at HM hsz ⊢
 clear ht h e0 hf hm
 obtain ⟨W,hW⟩:∃ W,w.alloc (.cells #[.int .i64 4,.int .i64 num,.int .i64 0,.slice a n c] 24)=W:=⟨_,rfl⟩
 have B0:RowKit.Hid (Blk W w.heap.size 24 #[.int .i64 4,.int .i64 num,.int .i64 0,.slice a n c]):=by show Blk _ _ _ _;rw [← hW];exact Blk.new w _ _
 have BB:RowKit.Hid (Below w.heap.size w W):=by show Below _ _ _;rw [← hW];exact Bw.out
 have x0:W.cell? ⟨w.heap.size,0,none⟩=some (.int .i64 4):=B0.out.cell 0
 go_enter Tryz.func76,Tryz.ntmps76
 go_wp2_with (first
  | (go_at_call 115;(with_reducible refine (HO.out _).mono ?_);rintro e w1 ⟨rfl,hb⟩;have B1:=hid (B0.out.below hb);have x0':w1.cell? ⟨w.heap.size,0,none⟩=some (.int .i64 4):=B1.out.cell 0;have x1':w1.cell? ⟨w.heap.size,1,none⟩=some (.int .i64 num):=B1.out.cell 1;have B1':=hid (btr BB.out hb);clear hb)
  | (go_at_call 116;(with_reducible refine (HM.out _).mono ?_);rintro e w2 ⟨rfl,rfl⟩))
 go_ret
 exact ⟨rfl,B1'.out⟩
theorem rtx_11 (t:TmM) (ih:RTx t) (a:Option Addr) (c:Nat) (hf:t.pl.form=true) (hs:t.pl.size≤1000):RTx (.mk 11 0 0 a 1 c [t]):=by
 intro w h
 obtain ⟨b,off,rfl,hbl,hrg⟩:=h.at_ (k:=0) (by simp)
 have HIH:=hid fun W' (hW':Below w.heap.size w W')=>ih W' ((h.kid (List.mem_singleton.2 rfl)).beh hW')
 have e0:(TmM.mk 11 0 0 (some ⟨b,off,none⟩) 1 c [t]).pl.words=⟨#[110,111,116]⟩ :: t.pl.words:=by
  rw [TmM.pl_mk,Tm.words_mk];simp [opWord,wNot]
 have hne:t.pl.words ≠ []:=by obtain ⟨l,e⟩:=Tm.words_cons t.pl;rw [e];simp
 have hsz:(joinW t.pl.words).size≤21000:=by
  have:=joinW_size (Tm.words_small t.pl hf)
  have:=Tm.words_len t.pl
  omega
 have HO:RowKit.Hid (∀ W:World,Calls Tryz.prog 115 #[.int .i64 11] W fun e w'=>e=.returned (.string ⟨#[110,111,116]⟩)∧Below W.heap.size W w'):=hid fun W=>rops_any 11 (by decide) (by decide) W
 rw [e0,joinW_cons _ hne]
 show Calls Tryz.prog _ #[.agg #[.int .i64 11,.int .i64 0,.int .i64 0,.slice (some ⟨b,off,none⟩) 1 c]] w _
 obtain ⟨tw,htw⟩:∃ tw,joinW t.pl.words=tw:=⟨_,rfl⟩
 rw [htw] at HIH hsz ⊢
 obtain ⟨W,hW⟩:∃ W,w.alloc (.cells #[.int .i64 11,.int .i64 0,.int .i64 0,.slice (some ⟨b,off,none⟩) 1 c] 24)=W:=⟨_,rfl⟩
 have B0:RowKit.Hid (Blk W w.heap.size 24 #[.int .i64 11,.int .i64 0,.int .i64 0,.slice (some ⟨b,off,none⟩) 1 c]):=by show Blk _ _ _ _;rw [← hW];exact Blk.new w _ _
 have BB:RowKit.Hid (Below w.heap.size w W):=by show Below _ _ _;rw [← hW];exact Bw.out
 have x0:W.cell? ⟨w.heap.size,0,none⟩=some (.int .i64 11):=B0.out.cell 0
 have HRG:=hid (rangeAt_below hrg BB.out)
 obtain ⟨op',num',more',a',n',c',kids'⟩:=t
 dsimp only [List.getElem_cons_zero] at HRG
 rw [encTm_mk] at HRG
 have HIH':RowKit.Hid (∀ W',Below w.heap.size w W'→Calls Tryz.prog 76 #[.agg #[.int .i64 op',.int .i64 num',.int .i64 more',.slice a' n' c']] W' fun e w'=>e=.returned (.string tw)∧Below W'.heap.size W' w'):=HIH
 clear e0 htw h ih hrg HIH hne hf hs
 go_enter Tryz.func76,Tryz.ntmps76
 go_wp2_with (first
  | (go_at_call 115;(with_reducible refine (HO.out _).mono ?_);rintro e w1 ⟨rfl,hb⟩;have B1:=hid (B0.out.below hb);have x0':w1.cell? ⟨w.heap.size,0,none⟩=some (.int .i64 11):=B1.out.cell 0;have x3':w1.cell? ⟨w.heap.size,3,none⟩=some (.slice (some ⟨b,off,none⟩) 1 c):=B1.out.cell 3;have B1':=hid (btr BB.out hb);have HRG1:=hid (rangeAt_below HRG.out hb);clear hb)
  | (refine wpList_load_mid rfl 24 (.tmp 41) rfl b _ rfl [.int .i64 op',.int .i64 num',.int .i64 more',.slice a' n' c'] _ HRG1.out Tryz.underlying24 rfl tmInfo ?_)
  | (go_at_call 76;(with_reducible refine (HIH'.out _ B1'.out).mono ?_);rintro e w2 ⟨rfl,hb⟩;have B2':=hid (btr B1'.out hb);clear hb))
 go_ret
 exact ⟨rfl,B2'.out⟩
theorem joinW_append {l m:List ByteArray} (h:l ≠ []) (k:m ≠ []):joinW (l++m)=joinW l++((⟨#[32]⟩:ByteArray)++joinW m):=by
 induction l with
 | nil=>exact absurd rfl h
 | cons a l ih =>
  by_cases e:l=[]
  ·subst e
   rw [List.singleton_append,joinW_cons a k,ByteArray.append_assoc];rfl
  ·rw [List.cons_append,joinW_cons a (by simp [e]),ih e,joinW_cons a e]
   simp only [ByteArray.append_assoc]
theorem rtx_9 (kids:List TmM) (ih:∀ k ∈ kids,RTx k) (a:Option Addr) (n c:Nat) (hn:kids.length=n) (hn0:0<n) (hf:∀ k ∈ kids,k.pl.form=true) (hs:Tm.sizes (kids.map TmM.pl)≤1000):RTx (.mk 9 0 0 a n c kids):=by
 intro w h
 have hvw:=h.vw;have hfew:=h.few
 obtain ⟨b,off,rfl⟩:∃ b off,a=some ⟨b,off,none⟩:=by
  obtain ⟨b,off,e,_⟩:=h.at_ (k:=0) (by rw [hn];exact hn0)
  exact ⟨b,off,e⟩
 have HAT:=hid fun (k:Nat) (hk:k<kids.length)=>h.at_ hk
 have HIH:=hid fun (k:Nat) (hk:k<kids.length) W' (hW':Below w.heap.size w W')=>ih kids[k] (List.getElem_mem hk) W' ((h.kid (List.getElem_mem hk)).beh hW')
 have e0:(TmM.mk 9 0 0 (some ⟨b,off,none⟩) n c kids).pl.words=((⟨#[97,110,100]⟩:ByteArray) :: wOpen :: kidW kids kids.length)++[wClose]:=by
  rw [TmM.pl_mk,Tm.words_mk];simp [opWord,wAnd,wAnd,wOr,kidW,List.flatMap_map]
 have HLEN:=hid fun k=>kidW_len kids k
 have HSM:RowKit.Hid (∀ k,∀ s ∈ (⟨#[97,110,100]⟩:ByteArray) :: wOpen :: kidW kids k,s.size≤6):=hid fun k s hs=>by
  rcases List.mem_cons.1 hs with rfl | hs
  ·decide
  rcases List.mem_cons.1 hs with rfl | hs
  ·decide
  obtain ⟨x,hx,hx'⟩:=List.mem_flatMap.1 hs
  exact Tm.words_small x.pl (hf x (List.mem_of_mem_take hx)) s hx'
 have HSZ:RowKit.Hid (∀ k,(joinW ((⟨#[97,110,100]⟩:ByteArray) :: wOpen :: kidW kids k)).size≤30000):=hid fun k=>by
  have:=joinW_size (HSM.out k)
  have:=HLEN.out k
  simp only [List.length_cons] at *
  omega
 have HKS:RowKit.Hid (∀ (k:Nat) (hk:k<kids.length),(joinW kids[k].pl.words).size≤30000):=hid fun k hk=>by
  have h1:=joinW_size (Tm.words_small kids[k].pl (hf _ (List.getElem_mem hk)))
  have h2:=Tm.words_len kids[k].pl
  have h3:=Tm.sizes_mem (List.mem_map_of_mem (f:=TmM.pl) (List.getElem_mem hk))
  omega
 have HNX:RowKit.Hid (∀ (k:Nat) (hk:k<kids.length),joinW ((⟨#[97,110,100]⟩:ByteArray) :: wOpen :: kidW kids (k+1))=joinW ((⟨#[97,110,100]⟩:ByteArray) :: wOpen :: kidW kids k)++((⟨#[32]⟩:ByteArray)++joinW kids[k].pl.words)):=hid fun k hk=>by
  have hne:kids[k].pl.words ≠ []:=by obtain ⟨l,e⟩:=Tm.words_cons kids[k].pl;rw [e];simp
  rw [kidW_succ hk,← List.cons_append,← List.cons_append]
  exact joinW_append (by simp) hne
 have HEND:RowKit.Hid (joinW (((⟨#[97,110,100]⟩:ByteArray) :: wOpen :: kidW kids kids.length)++[wClose])=joinW ((⟨#[97,110,100]⟩:ByteArray) :: wOpen :: kidW kids kids.length)++(⟨#[32,41]⟩:ByteArray)):=hid (by
  rw [joinW_append (by simp) (by simp)];rfl)
 have HBEG:RowKit.Hid (joinW ((⟨#[97,110,100]⟩:ByteArray) :: wOpen :: kidW kids 0)=(⟨#[97,110,100]⟩:ByteArray)++(⟨#[32,40]⟩:ByteArray)):=hid (by rw [show kidW kids 0=[] from rfl];decide +kernel)
 have HO:RowKit.Hid (∀ W:World,Calls Tryz.prog 115 #[.int .i64 9] W fun e w'=>e=.returned (.string ⟨#[97,110,100]⟩)∧Below W.heap.size W w'):=hid fun W=>rops_any 9 (by decide) (by decide) W
 rw [e0]
 show Calls Tryz.prog _ #[.agg #[.int .i64 9,.int .i64 0,.int .i64 0,.slice (some ⟨b,off,none⟩) n c]] w _
 clear e0 ih hf hs hvw h
 obtain ⟨W,hW⟩:∃ W,w.alloc (.cells #[.int .i64 9,.int .i64 0,.int .i64 0,.slice (some ⟨b,off,none⟩) n c] 24)=W:=⟨_,rfl⟩
 have B0:RowKit.Hid (Blk W w.heap.size 24 #[.int .i64 9,.int .i64 0,.int .i64 0,.slice (some ⟨b,off,none⟩) n c]):=by show Blk _ _ _ _;rw [← hW];exact Blk.new w _ _
 have BB:RowKit.Hid (Below w.heap.size w W):=by show Below _ _ _;rw [← hW];exact Bw.out
 have x0:W.cell? ⟨w.heap.size,0,none⟩=some (.int .i64 9):=B0.out.cell 0
 go_enter Tryz.func76,Tryz.ntmps76
 go_wp2_with (go_at_call 115;(with_reducible refine (HO.out _).mono ?_);rintro e w1 ⟨rfl,hb⟩;have B1:=hid (B0.out.below hb);have x0':w1.cell? ⟨w.heap.size,0,none⟩=some (.int .i64 9):=B1.out.cell 0;have x3':w1.cell? ⟨w.heap.size,3,none⟩=some (.slice (some ⟨b,off,none⟩) n c):=B1.out.cell 3;have B1':=hid (btr BB.out hb);clear hb)
 go_loopw [3,53] (fun v i wr=>∃ k:Nat,k≤n∧v=.string (joinW ((⟨#[97,110,100]⟩:ByteArray) :: wOpen :: kidW kids k))∧i=.int .i64 k∧Below w.heap.size w wr) (fun _ i _=>n - (intOf i).toNat)
 case atStart=>exact ⟨0,Nat.zero_le _,by rw [HBEG.out],rfl,B1'.out⟩
 case round =>
  obtain ⟨k,hk,rfl,rfl,hb⟩:=hrel
  have HB:=hid hb
  have yb:=hb.size
  have hsz:=HSZ.out k
  clear hb
  by_cases hlt:k<n
  ·have k1:k<kids.length:=by omega
   obtain ⟨b',o',e',hbl,hrg⟩:=HAT.out k k1
   cases e'
   have HRG:=hid (rangeAt_below hrg HB.out)
   have HC:=hid (HIH.out k k1)
   have hks:=HKS.out k k1
   have HX:=hid (HNX.out k k1)
   obtain ⟨s,hs⟩:∃ s,joinW ((⟨#[97,110,100]⟩:ByteArray) :: wOpen :: kidW kids k)=s:=⟨_,rfl⟩
   obtain ⟨tw,htw⟩:∃ tw,joinW kids[k].pl.words=tw:=⟨_,rfl⟩
   rw [hs] at hsz HX ⊢
   rw [htw] at hks HC HX
   clear hs htw hrg
   obtain ⟨t,ht⟩:∃ t,kids[k]=t:=⟨_,rfl⟩
   rw [ht] at HRG HC
   clear ht
   obtain ⟨op',num',more',a',n',c',kids'⟩:=t
   rw [encTm_mk] at HRG HC
   go_wp2_with (first
    | (refine wpList_load_mid rfl 24 (.tmp 55) rfl b (off+k * 4) rfl [.int .i64 op',.int .i64 num',.int .i64 more',.slice a' n' c'] _ HRG.out Tryz.underlying24 rfl tmInfo ?_)
    | (refine st_new rfl 24 (.tmp 5) (.tmp 56) rfl #[.int .i64 op',.int .i64 num',.int .i64 more',.slice a' n' c'] _ _ rfl rfl tmInfo rfl (tm_one _ _ _ _ _ _) ?_)
    | (refine wpList_load_row rfl 24 (.tmp 5) rfl wr.heap.size rfl _ #[.int .i64 op',.int .i64 num',.int .i64 more',.slice a' n' c'] _ _ (Blk.new _ _ _) Tryz.underlying24 rfl tmInfo ?_)
    | (go_at_call 76;refine (HC.out _ (btr HB.out Bw.out)).mono ?_;rintro e w2 ⟨rfl,hb⟩;have B2':RowKit.Hid (Below wr.heap.size wr w2):=hid (btr Bw.out hb);clear hb))
   go_roundw
   case rel=>exact ⟨k+1,by omega,by rw [HX.out],by go_num,btr HB.out B2'.out⟩
   case measure=>simp [intOf];omega
  ·obtain rfl:k=kids.length:=by omega
   have HE2:=hid HEND.out
   obtain ⟨s,hs⟩:∃ s,joinW ((⟨#[97,110,100]⟩:ByteArray) :: wOpen :: kidW kids kids.length)=s:=⟨_,rfl⟩
   rw [hs] at hsz HE2 ⊢
   clear hs
   go_wp2
   go_ret
   exact ⟨congrArg (fun x=>Ending.returned (.string x)) HE2.out.symm,HB.out⟩
theorem rtx_10 (kids:List TmM) (ih:∀ k ∈ kids,RTx k) (a:Option Addr) (n c:Nat) (hn:kids.length=n) (hn0:0<n) (hf:∀ k ∈ kids,k.pl.form=true) (hs:Tm.sizes (kids.map TmM.pl)≤1000):RTx (.mk 10 0 0 a n c kids):=by
 intro w h
 have hvw:=h.vw;have hfew:=h.few
 obtain ⟨b,off,rfl⟩:∃ b off,a=some ⟨b,off,none⟩:=by
  obtain ⟨b,off,e,_⟩:=h.at_ (k:=0) (by rw [hn];exact hn0)
  exact ⟨b,off,e⟩
 have HAT:=hid fun (k:Nat) (hk:k<kids.length)=>h.at_ hk
 have HIH:=hid fun (k:Nat) (hk:k<kids.length) W' (hW':Below w.heap.size w W')=>ih kids[k] (List.getElem_mem hk) W' ((h.kid (List.getElem_mem hk)).beh hW')
 have e0:(TmM.mk 10 0 0 (some ⟨b,off,none⟩) n c kids).pl.words=((⟨#[111,114]⟩:ByteArray) :: wOpen :: kidW kids kids.length)++[wClose]:=by
  rw [TmM.pl_mk,Tm.words_mk];simp [opWord,wOr,wAnd,wOr,kidW,List.flatMap_map]
 have HLEN:=hid fun k=>kidW_len kids k
 have HSM:RowKit.Hid (∀ k,∀ s ∈ (⟨#[111,114]⟩:ByteArray) :: wOpen :: kidW kids k,s.size≤6):=hid fun k s hs=>by
  rcases List.mem_cons.1 hs with rfl | hs
  ·decide
  rcases List.mem_cons.1 hs with rfl | hs
  ·decide
  obtain ⟨x,hx,hx'⟩:=List.mem_flatMap.1 hs
  exact Tm.words_small x.pl (hf x (List.mem_of_mem_take hx)) s hx'
 have HSZ:RowKit.Hid (∀ k,(joinW ((⟨#[111,114]⟩:ByteArray) :: wOpen :: kidW kids k)).size≤30000):=hid fun k=>by
  have:=joinW_size (HSM.out k)
  have:=HLEN.out k
  simp only [List.length_cons] at *
  omega
 have HKS:RowKit.Hid (∀ (k:Nat) (hk:k<kids.length),(joinW kids[k].pl.words).size≤30000):=hid fun k hk=>by
  have h1:=joinW_size (Tm.words_small kids[k].pl (hf _ (List.getElem_mem hk)))
  have h2:=Tm.words_len kids[k].pl
  have h3:=Tm.sizes_mem (List.mem_map_of_mem (f:=TmM.pl) (List.getElem_mem hk))
  omega
 have HNX:RowKit.Hid (∀ (k:Nat) (hk:k<kids.length),joinW ((⟨#[111,114]⟩:ByteArray) :: wOpen :: kidW kids (k+1))=joinW ((⟨#[111,114]⟩:ByteArray) :: wOpen :: kidW kids k)++((⟨#[32]⟩:ByteArray)++joinW kids[k].pl.words)):=hid fun k hk=>by
  have hne:kids[k].pl.words ≠ []:=by obtain ⟨l,e⟩:=Tm.words_cons kids[k].pl;rw [e];simp
  rw [kidW_succ hk,← List.cons_append,← List.cons_append]
  exact joinW_append (by simp) hne
 have HEND:RowKit.Hid (joinW (((⟨#[111,114]⟩:ByteArray) :: wOpen :: kidW kids kids.length)++[wClose])=joinW ((⟨#[111,114]⟩:ByteArray) :: wOpen :: kidW kids kids.length)++(⟨#[32,41]⟩:ByteArray)):=hid (by
  rw [joinW_append (by simp) (by simp)];rfl)
 have HBEG:RowKit.Hid (joinW ((⟨#[111,114]⟩:ByteArray) :: wOpen :: kidW kids 0)=(⟨#[111,114]⟩:ByteArray)++(⟨#[32,40]⟩:ByteArray)):=hid (by rw [show kidW kids 0=[] from rfl];decide +kernel)
 have HO:RowKit.Hid (∀ W:World,Calls Tryz.prog 115 #[.int .i64 10] W fun e w'=>e=.returned (.string ⟨#[111,114]⟩)∧Below W.heap.size W w'):=hid fun W=>rops_any 10 (by decide) (by decide) W
 rw [e0]
 show Calls Tryz.prog _ #[.agg #[.int .i64 10,.int .i64 0,.int .i64 0,.slice (some ⟨b,off,none⟩) n c]] w _
 clear e0 ih hf hs hvw h
 obtain ⟨W,hW⟩:∃ W,w.alloc (.cells #[.int .i64 10,.int .i64 0,.int .i64 0,.slice (some ⟨b,off,none⟩) n c] 24)=W:=⟨_,rfl⟩
 have B0:RowKit.Hid (Blk W w.heap.size 24 #[.int .i64 10,.int .i64 0,.int .i64 0,.slice (some ⟨b,off,none⟩) n c]):=by show Blk _ _ _ _;rw [← hW];exact Blk.new w _ _
 have BB:RowKit.Hid (Below w.heap.size w W):=by show Below _ _ _;rw [← hW];exact Bw.out
 have x0:W.cell? ⟨w.heap.size,0,none⟩=some (.int .i64 10):=B0.out.cell 0
 go_enter Tryz.func76,Tryz.ntmps76
 go_wp2_with (go_at_call 115;(with_reducible refine (HO.out _).mono ?_);rintro e w1 ⟨rfl,hb⟩;have B1:=hid (B0.out.below hb);have x0':w1.cell? ⟨w.heap.size,0,none⟩=some (.int .i64 10):=B1.out.cell 0;have x3':w1.cell? ⟨w.heap.size,3,none⟩=some (.slice (some ⟨b,off,none⟩) n c):=B1.out.cell 3;have B1':=hid (btr BB.out hb);clear hb)
 go_loopw [3,53] (fun v i wr=>∃ k:Nat,k≤n∧v=.string (joinW ((⟨#[111,114]⟩:ByteArray) :: wOpen :: kidW kids k))∧i=.int .i64 k∧Below w.heap.size w wr) (fun _ i _=>n - (intOf i).toNat)
 case atStart=>exact ⟨0,Nat.zero_le _,by rw [HBEG.out],rfl,B1'.out⟩
 case round =>
  obtain ⟨k,hk,rfl,rfl,hb⟩:=hrel
  have HB:=hid hb
  have yb:=hb.size
  have hsz:=HSZ.out k
  clear hb
  by_cases hlt:k<n
  ·have k1:k<kids.length:=by omega
   obtain ⟨b',o',e',hbl,hrg⟩:=HAT.out k k1
   cases e'
   have HRG:=hid (rangeAt_below hrg HB.out)
   have HC:=hid (HIH.out k k1)
   have hks:=HKS.out k k1
   have HX:=hid (HNX.out k k1)
   obtain ⟨s,hs⟩:∃ s,joinW ((⟨#[111,114]⟩:ByteArray) :: wOpen :: kidW kids k)=s:=⟨_,rfl⟩
   obtain ⟨tw,htw⟩:∃ tw,joinW kids[k].pl.words=tw:=⟨_,rfl⟩
   rw [hs] at hsz HX ⊢
   rw [htw] at hks HC HX
   clear hs htw hrg
   obtain ⟨t,ht⟩:∃ t,kids[k]=t:=⟨_,rfl⟩
   rw [ht] at HRG HC
   clear ht
   obtain ⟨op',num',more',a',n',c',kids'⟩:=t
   rw [encTm_mk] at HRG HC
   go_wp2_with (first
    | (refine wpList_load_mid rfl 24 (.tmp 55) rfl b (off+k * 4) rfl [.int .i64 op',.int .i64 num',.int .i64 more',.slice a' n' c'] _ HRG.out Tryz.underlying24 rfl tmInfo ?_)
    | (refine st_new rfl 24 (.tmp 5) (.tmp 56) rfl #[.int .i64 op',.int .i64 num',.int .i64 more',.slice a' n' c'] _ _ rfl rfl tmInfo rfl (tm_one _ _ _ _ _ _) ?_)
    | (refine wpList_load_row rfl 24 (.tmp 5) rfl wr.heap.size rfl _ #[.int .i64 op',.int .i64 num',.int .i64 more',.slice a' n' c'] _ _ (Blk.new _ _ _) Tryz.underlying24 rfl tmInfo ?_)
    | (go_at_call 76;refine (HC.out _ (btr HB.out Bw.out)).mono ?_;rintro e w2 ⟨rfl,hb⟩;have B2':RowKit.Hid (Below wr.heap.size wr w2):=hid (btr Bw.out hb);clear hb))
   go_roundw
   case rel=>exact ⟨k+1,by omega,by rw [HX.out],by go_num,btr HB.out B2'.out⟩
   case measure=>simp [intOf];omega
  ·obtain rfl:k=kids.length:=by omega
   have HE2:=hid HEND.out
   obtain ⟨s,hs⟩:∃ s,joinW ((⟨#[111,114]⟩:ByteArray) :: wOpen :: kidW kids kids.length)=s:=⟨_,rfl⟩
   rw [hs] at hsz HE2 ⊢
   clear hs
   go_wp2
   go_ret
   exact ⟨congrArg (fun x=>Ending.returned (.string x)) HE2.out.symm,HB.out⟩
theorem rtx_7 (num more:Int) (a:Option Addr) (n c:Nat) (hf:formB 7 num more 0=true):RTx (.mk 7 num more a n c []):=by
 intro w h
 obtain ⟨⟨h1,h2⟩,hm⟩:(1≤num∧num≤10)∧oneMark more=true:=by simp [formB] at hf;exact hf
 have e0:(TmM.mk 7 num more a n c []).pl.words=[⟨#[98,101,102,111,114,101]⟩,numWord num,markWord more]:=by
  rw [TmM.pl_mk,Tm.words_mk];simp [leafWords,opWord,wBefore]
 have HO:RowKit.Hid (∀ W:World,Calls Tryz.prog 115 #[.int .i64 7] W fun e w'=>e=.returned (.string ⟨#[98,101,102,111,114,101]⟩)∧Below W.heap.size W w'):=hid fun W=>rops_any 7 (by decide) (by decide) W
 have HM:RowKit.Hid (∀ W:World,Calls Tryz.prog 116 #[.int .i64 more] W fun e w'=>e=.returned (.string (markWord more))∧w'=W):=hid fun W=>by
  obtain ⟨r,hr⟩:∃ r:Nat,more=(r:Int):=⟨more.toNat,by rcases oneMark_cases hm with h | h | h | h | h <;> omega⟩
  have hl:r<32:=by rcases oneMark_cases hm with h | h | h | h | h <;> omega
  have e:=mark_mk ⟨r,hl⟩ (by simpa [← hr] using hm)
  simp only at e
  rw [hr,← e]
  exact rmarks_any r hl W
 have HD:=hid fun W=>rdec_any 20 num (by simp;omega) (by omega) (by omega) W
 have hsz:=numWord_size (n:=num) (by omega) (by omega)
 have hsm:=markWord_size more
 rw [numW_itoa (by omega)] at HD
 rw [e0]
 show Calls Tryz.prog _ #[.agg #[.int .i64 7,.int .i64 num,.int .i64 more,.slice a n c]] w _
 obtain ⟨t,ht⟩:∃ t,numWord num=t:=⟨_,rfl⟩
 obtain ⟨u,hu⟩:∃ u,markWord more=u:=⟨_,rfl⟩
 rw [ht] at HD hsz ⊢
 rw [hu] at HM hsm ⊢
 clear ht h e0 hf hm hu
 obtain ⟨W,hW⟩:∃ W,w.alloc (.cells #[.int .i64 7,.int .i64 num,.int .i64 more,.slice a n c] 24)=W:=⟨_,rfl⟩
 have B0:RowKit.Hid (Blk W w.heap.size 24 #[.int .i64 7,.int .i64 num,.int .i64 more,.slice a n c]):=by show Blk _ _ _ _;rw [← hW];exact Blk.new w _ _
 have BB:RowKit.Hid (Below w.heap.size w W):=by show Below _ _ _;rw [← hW];exact Bw.out
 have x0:W.cell? ⟨w.heap.size,0,none⟩=some (.int .i64 7):=B0.out.cell 0
 go_enter Tryz.func76,Tryz.ntmps76
 go_upto_region 8 with (go_at_call 115;(with_reducible refine (HO.out _).mono ?_);rintro e w1 ⟨rfl,hb⟩;have B1:=hid (B0.out.below hb);have x0':w1.cell? ⟨w.heap.size,0,none⟩=some (.int .i64 7):=B1.out.cell 0;have x1':w1.cell? ⟨w.heap.size,1,none⟩=some (.int .i64 num):=B1.out.cell 1;have x2':w1.cell? ⟨w.heap.size,2,none⟩=some (.int .i64 more):=B1.out.cell 2;have B1':=hid (btr BB.out hb);clear hb)
 have CC:=hid (And.intro x1' x2')
 have q1:¬ 9223372036854775807<7+t.size:=by omega
 have q2:¬ 9223372036854775807<7+t.size+1:=by omega
 have q3:¬ 9223372036854775807<7+t.size+1+u.size:=by omega
 clear x0 x0' x1' x2'
 go_region_held3 (fun w'=>w'.cell? ⟨w.heap.size,1,none⟩=some (.int .i64 num)∧w'.cell? ⟨w.heap.size,2,none⟩=some (.int .i64 more)) (first | exact CC.out | exact ⟨bc1 B2'.out CC.out.1,bc1 B2'.out CC.out.2⟩)
  (first
   | (go_at_call 117;(with_reducible refine (HD.out _).mono ?_);rintro e w2 ⟨rfl,hb⟩;have B2':RowKit.Hid (Below w1.heap.size w1 w2):=hid (btr Bw.out hb);clear hb)
   | (go_at_call 116;(with_reducible refine (HM.out _).mono ?_);rintro e w3 ⟨rfl,rfl⟩)
   | fail)
 all_goals go_wp2
 all_goals go_ret
 all_goals exact ⟨rfl,btr B1'.out B2'.out⟩
theorem words_err (t:TmM) (w:World) (h:TmOk w t) (hk:chkT t.pl ≠ 0):Calls Tryz.prog 69 #[.agg (encTm t).toArray] w fun e w'=>e=.returned (.tuple #[.slice none 0 0,.int .i64 (chkT t.pl)])∧Below w.heap.size w w':=by
 have HC:=hid fun W' (hW':Below w.heap.size w W')=>check_any t W' (h.beh hW')
 obtain ⟨tb,htb⟩:∃ tb,(encTm t).toArray=tb:=⟨_,rfl⟩
 have TI:RowKit.Hid ((Tryz.prog.info? 24).map (·.size)=some (encTm t).toArray.size):=encTm_info t
 obtain ⟨ck,hck⟩:∃ ck,chkT t.pl=ck:=⟨_,rfl⟩
 rw [hck] at HC hk ⊢
 rw [htb] at HC TI ⊢
 have hk1:(ck == 0)=false:=by simpa using hk
 clear h htb hck
 obtain ⟨W,hW⟩:∃ W,w.alloc (.cells tb 24)=W:=⟨_,rfl⟩
 have B0:RowKit.Hid (Blk W w.heap.size 24 tb):=by show Blk _ _ _ _;rw [← hW];exact Blk.new w _ _
 have BB:RowKit.Hid (Below w.heap.size w W):=by show Below _ _ _;rw [← hW];exact Bw.out
 go_enter Tryz.func69,Tryz.ntmps69
 go_wp2_with (first
  | (refine wpList_load_row rfl 24 (.tmp 1) rfl w.heap.size rfl _ tb _ _ B0.out Tryz.underlying24 rfl TI.out ?_)
  | (go_at_call 40;refine (HC.out _ BB.out).mono ?_;rintro e w1 ⟨rfl,hb1⟩;have BB1:=hid (btr BB.out hb1);clear hb1))
 go_ret2
 exact ⟨rfl,BB1.out⟩
theorem rprint_err (t:TmM) (w:World) (h:TmOk w t) (hk:chkT t.pl ≠ 0) (hz:t.pl.size≤2147483647):Calls Tryz.prog 39 #[.agg (encTm t).toArray] w fun e w'=>e=.returned (.tuple #[.string ⟨#[]⟩,.int .i64 (chkT t.pl)])∧Below w.heap.size w w':=by
 have HC:=hid fun W' (hW':Below w.heap.size w W')=>rcheck_any t W' (h.beh hW') hz
 obtain ⟨tb,htb⟩:∃ tb,(encTm t).toArray=tb:=⟨_,rfl⟩
 have TI:RowKit.Hid ((Tryz.prog.info? 24).map (·.size)=some (encTm t).toArray.size):=encTm_info t
 obtain ⟨ck,hck⟩:∃ ck,chkT t.pl=ck:=⟨_,rfl⟩
 rw [hck] at HC hk ⊢
 rw [htb] at HC TI ⊢
 have hk1:(ck == 0)=false:=by simpa using hk
 clear h htb hck
 obtain ⟨W,hW⟩:∃ W,w.alloc (.cells tb 24)=W:=⟨_,rfl⟩
 have B0:RowKit.Hid (Blk W w.heap.size 24 tb):=by show Blk _ _ _ _;rw [← hW];exact Blk.new w _ _
 have BB:RowKit.Hid (Below w.heap.size w W):=by show Below _ _ _;rw [← hW];exact Bw.out
 go_enter Tryz.func39,Tryz.ntmps39
 go_wp2_with (first
  | (refine wpList_load_row rfl 24 (.tmp 1) rfl w.heap.size rfl _ tb _ _ B0.out Tryz.underlying24 rfl TI.out ?_)
  | (go_at_call 41;refine (HC.out _ BB.out).mono ?_;rintro e w1 ⟨rfl,hb1⟩;have BB1:=hid (btr BB.out hb1);clear hb1))
 go_ret2
 exact ⟨rfl,BB1.out⟩
theorem print_err (t:TmM) (w:World) (h:TmOk w t) (hk:chkT t.pl ≠ 0):Calls Tryz.prog 34 #[.agg (encTm t).toArray] w fun e w'=>e=.returned (.tuple #[.string ⟨#[]⟩,.int .i64 (chkT t.pl)])∧Below w.heap.size w w':=by
 have HC:=hid fun W' (hW':Below w.heap.size w W')=>words_err t W' (h.beh hW') hk
 obtain ⟨tb,htb⟩:∃ tb,(encTm t).toArray=tb:=⟨_,rfl⟩
 have TI:RowKit.Hid ((Tryz.prog.info? 24).map (·.size)=some (encTm t).toArray.size):=encTm_info t
 obtain ⟨ck,hck⟩:∃ ck,chkT t.pl=ck:=⟨_,rfl⟩
 rw [hck] at HC hk ⊢
 rw [htb] at HC TI ⊢
 have hk1:(ck == 0)=false:=by simpa using hk
 clear h htb hck
 obtain ⟨W,hW⟩:∃ W,w.alloc (.cells tb 24)=W:=⟨_,rfl⟩
 have B0:RowKit.Hid (Blk W w.heap.size 24 tb):=by show Blk _ _ _ _;rw [← hW];exact Blk.new w _ _
 have BB:RowKit.Hid (Below w.heap.size w W):=by show Below _ _ _;rw [← hW];exact Bw.out
 go_enter Tryz.func34,Tryz.ntmps34
 go_wp2_with (first
  | (refine wpList_load_row rfl 24 (.tmp 1) rfl w.heap.size rfl _ tb _ _ B0.out Tryz.underlying24 rfl TI.out ?_)
  | (go_at_call 69;refine (HC.out _ BB.out).mono ?_;rintro e w1 ⟨rfl,hb1⟩;have BB1:=hid (btr BB.out hb1);clear hb1))
 go_ret2
 exact ⟨rfl,BB1.out⟩
theorem rtext_any (t:TmM):t.pl.form=true→t.pl.size≤1000→RTx t:=by
 induction t using TmM.ind with
 | h op num more a n c kids ih =>
  intro hf hs w hT
  have hln:=hT.len
  rw [TmM.pl_mk] at hf hs
  obtain ⟨hfo,hfk⟩:=form_kid hf
  rw [Tm.size] at hs
  rw [List.length_map] at hfo
  have hfk':∀ k ∈ kids,k.pl.form=true:=fun k hk=>hfk _ (List.mem_map.2 ⟨k,hk,rfl⟩)
  have ih':∀ k ∈ kids,RTx k:=fun k hk w' hw'=>ih k hk (hfk _ (List.mem_map.2 ⟨k,hk,rfl⟩)) (by have:=Tm.sizes_mem (List.mem_map.2 ⟨k,hk,rfl⟩:k.pl ∈ kids.map TmM.pl);omega) w' hw'
  have leaf:op ≠ 9→op ≠ 10→op ≠ 11→kids=[]:=fun h1 h2 h3=>by
   unfold formB at hfo
   rw [Bool.and_eq_true,Bool.and_eq_true] at hfo
   have:=hfo.2
   rw [if_neg (by omega)] at this
   exact List.eq_nil_of_length_eq_zero (of_decide_eq_true this)
  have zeros:op=9∨op=10∨op=11→num=0∧more=0:=fun h=>by
   unfold formB at hfo
   rcases h with rfl | rfl | rfl <;> simp at hfo <;> omega
  rcases formB_op hfo with rfl | rfl | rfl | rfl | rfl | rfl | rfl | rfl | ⟨rfl | rfl,hk0⟩ | ⟨rfl,h1⟩
  iterate 8 (obtain rfl:=leaf (by decide) (by decide) (by decide);first | exact rtx_1 _ _ _ _ _ hfo w hT | exact rtx_2 _ _ _ _ _ hfo w hT | exact rtx_3 _ _ _ _ _ hfo w hT | exact rtx_4 _ _ _ _ _ hfo w hT | exact rtx_5 _ _ _ _ _ hfo w hT | exact rtx_6 _ _ _ _ _ hfo w hT | exact rtx_7 _ _ _ _ _ hfo w hT | exact rtx_8 _ _ _ _ _ hfo w hT)
  ·obtain ⟨rfl,rfl⟩:=zeros (.inl rfl)
   exact rtx_9 kids ih' a n c hln (by omega) hfk' (by omega) w hT
  ·obtain ⟨rfl,rfl⟩:=zeros (.inr (.inl rfl))
   exact rtx_10 kids ih' a n c hln (by omega) hfk' (by omega) w hT
  ·obtain ⟨rfl,rfl⟩:=zeros (.inr (.inr rfl))
   obtain ⟨k,rfl⟩:=List.length_eq_one_iff.1 h1
   obtain rfl:1=n:=hln
   exact rtx_11 k (ih' k (List.mem_singleton.2 rfl)) a c (hfk' k (List.mem_singleton.2 rfl)) (by
    have:=Tm.sizes_mem (List.mem_map.2 ⟨k,List.mem_singleton.2 rfl,rfl⟩:k.pl ∈ [k].map TmM.pl)
    omega) w hT
theorem rprint_any (t:TmM) (w:World) (h:TmOk w t) (hk:chkT t.pl=0) (hz:t.pl.size≤2147483647):Calls Tryz.prog 39 #[.agg (encTm t).toArray] w fun e w'=>e=.returned (.tuple #[.string (joinW t.pl.words),.int .i64 0])∧Below w.heap.size w w':=by
 have hz':=chkT_zero hk
 have HC:=hid fun W' (hW':Below w.heap.size w W')=>rcheck_any t W' (h.beh hW') hz
 have HT:=hid fun W' (hW':Below w.heap.size w W')=>rtext_any t hz'.2 (by omega) W' (h.beh hW')
 rw [hk] at HC
 obtain ⟨tb,htb⟩:∃ tb,(encTm t).toArray=tb:=⟨_,rfl⟩
 have TI:RowKit.Hid ((Tryz.prog.info? 24).map (·.size)=some (encTm t).toArray.size):=encTm_info t
 rw [htb] at HC HT TI ⊢
 obtain ⟨l,hl⟩:∃ l,joinW t.pl.words=l:=⟨_,rfl⟩
 rw [hl] at HT ⊢
 clear h hk hz htb hl hz'
 obtain ⟨W,hW⟩:∃ W,w.alloc (.cells tb 24)=W:=⟨_,rfl⟩
 have B0:RowKit.Hid (Blk W w.heap.size 24 tb):=by show Blk _ _ _ _;rw [← hW];exact Blk.new w _ _
 have BB:RowKit.Hid (Below w.heap.size w W):=by show Below _ _ _;rw [← hW];exact Bw.out
 go_enter Tryz.func39,Tryz.ntmps39
 go_wp2_with (first
  | (refine wpList_load_row rfl 24 (.tmp 1) rfl w.heap.size rfl _ tb _ _ B0.out Tryz.underlying24 rfl TI.out ?_)
  | (go_at_call 41;refine (HC.out _ BB.out).mono ?_;rintro e w1 ⟨rfl,hb1⟩;have B1:=hid (B0.out.below hb1);have BB1:=hid (btr BB.out hb1);clear hb1)
  | (refine wpList_load_row rfl 24 (.tmp 1) rfl w.heap.size rfl _ tb _ _ B1.out Tryz.underlying24 rfl TI.out ?_)
  | (go_at_call 76;refine (HT.out _ BB1.out).mono ?_;rintro e w2 ⟨rfl,hb2⟩;have BB2:=hid (btr BB1.out hb2);clear hb2))
 go_ret2
 exact ⟨rfl,BB2.out⟩
def printV (t:Tm):ByteArray:=if chkT t=0 then joinW t.words else ⟨#[]⟩
theorem Print_all (t:TmM) (w:World) (h:TmOk w t):Calls Tryz.prog 34 #[.agg (encTm t).toArray] w fun e w'=>e=.returned (.tuple #[.string (printV t.pl),.int .i64 (chkT t.pl)])∧Below w.heap.size w w':=by
 by_cases hk:chkT t.pl=0
 ·unfold printV;rw [if_pos hk,hk];exact print_any t w h hk
 ·unfold printV;rw [if_neg hk];exact print_err t w h hk
theorem rPrint_all (t:TmM) (w:World) (h:TmOk w t) (hz:t.pl.size≤2147483647):Calls Tryz.prog 39 #[.agg (encTm t).toArray] w fun e w'=>e=.returned (.tuple #[.string (printV t.pl),.int .i64 (chkT t.pl)])∧Below w.heap.size w w':=by
 by_cases hk:chkT t.pl=0
 ·unfold printV;rw [if_pos hk,hk];exact rprint_any t w h hk hz
 ·unfold printV;rw [if_neg hk];exact rprint_err t w h hk hz
end Go.Proofs.YtancajcelmhnkaaGreatDoor
