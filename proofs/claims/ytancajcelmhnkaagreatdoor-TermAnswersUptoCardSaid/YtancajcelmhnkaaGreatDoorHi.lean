/- Names of crops: the eight that catalogues are made of. -/
import Derived.Test.YtancajcelmhnkaaGreatDoorHis
set_option maxRecDepth 100000
set_option maxHeartbeats 4000000
namespace Go.Proofs.YtancajcelmhnkaaGreatDoor
open Go.RowKit
set_option linter.unusedVariables false
set_option linter.unusedSimpArgs false
def nm8:List ByteArray:=[⟨#[98,97,114,108,101,121]⟩,⟨#[99,108,111,118,101,114]⟩,⟨#[103,114,97,115,115]⟩,⟨#[109,97,105,122,101]⟩,⟨#[111,97,116,115]⟩,⟨#[114,121,101]⟩,⟨#[118,101,116,99,104]⟩,⟨#[119,104,101,97,116]⟩]
def NameAt (w:World) (s:ByteArray):Prop:=∀ W:World,Below w.heap.size w W→Calls Tryz.prog 128 #[.string s] W fun e w'=>e=.returned (.bool true)∧Below W.heap.size W w'
theorem name_0 (w:World):Calls Tryz.prog 128 #[.string ⟨#[98,97,114,108,101,121]⟩] w fun e w'=>e=.returned (.bool true)∧Below w.heap.size w w':=by
 go_enter Tryz.func128,Tryz.ntmps128
 go_wp2
 go_rounds 7
 go_ret
 exact ⟨rfl,Below.refl _ _⟩
theorem name_1 (w:World):Calls Tryz.prog 128 #[.string ⟨#[99,108,111,118,101,114]⟩] w fun e w'=>e=.returned (.bool true)∧Below w.heap.size w w':=by
 go_enter Tryz.func128,Tryz.ntmps128
 go_wp2
 go_rounds 7
 go_ret
 exact ⟨rfl,Below.refl _ _⟩
theorem name_2 (w:World):Calls Tryz.prog 128 #[.string ⟨#[103,114,97,115,115]⟩] w fun e w'=>e=.returned (.bool true)∧Below w.heap.size w w':=by
 go_enter Tryz.func128,Tryz.ntmps128
 go_wp2
 go_rounds 6
 go_ret
 exact ⟨rfl,Below.refl _ _⟩
theorem name_3 (w:World):Calls Tryz.prog 128 #[.string ⟨#[109,97,105,122,101]⟩] w fun e w'=>e=.returned (.bool true)∧Below w.heap.size w w':=by
 go_enter Tryz.func128,Tryz.ntmps128
 go_wp2
 go_rounds 6
 go_ret
 exact ⟨rfl,Below.refl _ _⟩
theorem name_4 (w:World):Calls Tryz.prog 128 #[.string ⟨#[111,97,116,115]⟩] w fun e w'=>e=.returned (.bool true)∧Below w.heap.size w w':=by
 go_enter Tryz.func128,Tryz.ntmps128
 go_wp2
 go_rounds 5
 go_ret
 exact ⟨rfl,Below.refl _ _⟩
theorem name_5 (w:World):Calls Tryz.prog 128 #[.string ⟨#[114,121,101]⟩] w fun e w'=>e=.returned (.bool true)∧Below w.heap.size w w':=by
 go_enter Tryz.func128,Tryz.ntmps128
 go_wp2
 go_rounds 4
 go_ret
 exact ⟨rfl,Below.refl _ _⟩
theorem name_6 (w:World):Calls Tryz.prog 128 #[.string ⟨#[118,101,116,99,104]⟩] w fun e w'=>e=.returned (.bool true)∧Below w.heap.size w w':=by
 go_enter Tryz.func128,Tryz.ntmps128
 go_wp2
 go_rounds 6
 go_ret
 exact ⟨rfl,Below.refl _ _⟩
theorem name_7 (w:World):Calls Tryz.prog 128 #[.string ⟨#[119,104,101,97,116]⟩] w fun e w'=>e=.returned (.bool true)∧Below w.heap.size w w':=by
 go_enter Tryz.func128,Tryz.ntmps128
 go_wp2
 go_rounds 6
 go_ret
 exact ⟨rfl,Below.refl _ _⟩
theorem name_any (k:Nat) (hk:k<8) (w:World):NameAt w (nm8[k]'hk):=fun W _=>by
 match k,hk with
 | 0,_=>exact name_0 W
 | 1,_=>exact name_1 W
 | 2,_=>exact name_2 W
 | 3,_=>exact name_3 W
 | 4,_=>exact name_4 W
 | 5,_=>exact name_5 W
 | 6,_=>exact name_6 W
 | 7,_=>exact name_7 W
 | n+8,h=>omega
structure Cat (l:List Crp):Prop where
 len:l.length≤8
 name:∀ k (h:k<l.length),l[k].name=nm8[k]'(Nat.lt_of_lt_of_le h len)
 fam:∀ c ∈ l,0≤c.family∧c.family≤40
end Go.Proofs.YtancajcelmhnkaaGreatDoor
namespace Go.Proofs.YtancajcelmhnkaaGreatDoor
open Go.RowKit Go.Sort Go.Shelf
set_option linter.unusedVariables false
set_option linter.unusedSimpArgs false
theorem cpInfo:(Tryz.prog.info? 44).map (·.size)=some 3:=by kernel_rfl
theorem cp_one (s:ByteArray) (a b:Int):(#[.string s,.int .i64 a,.int .i64 b]:Array Value).all (·.oneCell')=true:=by
 rw [List.all_toArray];rfl
def NameOk (s:ByteArray):Prop:=∀ W:World,Calls Tryz.prog 128 #[.string s] W fun e w'=>e=.returned (.bool true)∧Below W.heap.size W w'
def mkB (c:Crp):Bool:=decide (0≤c.marks∧c.marks≤31)
structure CatM (l:List Crp):Prop where
 len:l.length≤40
 name:∀ c ∈ l,NameOk c.name
 fam:∀ c ∈ l,0≤c.family∧c.family≤40
 asc:∀ m (h:m+1<l.length),Op.bytesLess l[m+1].name.toList l[m].name.toList=false∧(l[m+1].name.toList == l[m].name.toList)=false
def CChk (l:List Crp) (x:Int):Prop:=((∀ c ∈ l,mkB c=true)→x=0)∧((∃ c ∈ l,mkB c=false)→x=14)
theorem pccheck_any (s:Sc Crp) (w:World) (hR:Rws encCrp w s 40) (hg:CatM s.l) :
  Calls Tryz.prog 90 #[.slice s.a s.n s.c] w fun e w'=>∃ x,e=.returned (.int .i64 x)∧CChk s.l x∧Below w.heap.size w w':=by
 obtain ⟨a,n,c,l⟩:=s
 dsimp only at hg ⊢
 have HR:=hid hR;have HG:=hid hg
 have hn:l.length=n:=hR.len
 have HN:=hid hn
 have hm:n≤40:=hR.few
 have h60:¬ (40:Int)<(n:Int):=by omega
 clear hR hg hn
 go_enter Tryz.func90,Tryz.ntmps90
 go_wp2
 go_loopw [10] (fun i wr=>∃ k:Nat,k≤n∧i=.int .i64 k∧(∀ j (h:j<l.length),j<k→mkB l[j]=true)∧Below w.heap.size w wr) (fun i _=>n - (intOf i).toNat)
 case atStart=>exact ⟨0,Nat.zero_le _,rfl,(fun j _ h=>absurd h (Nat.not_lt_zero j)),Below.refl _ _⟩
 case round =>
  obtain ⟨k,hk,rfl,hno,hb⟩:=hrel
  have NO:=hid hno;have HB:=hid hb
  clear hno hb
  by_cases hlt:k<n
  ·have hke:k<l.length:=by rw [HN.out];exact hlt
   obtain ⟨b,off,rfl,hbl,hrg⟩:=HR.out.vw.range (k:=3) (fun x _=>encCrp_len x) (by omega) k hke
   have HRG:=hid (rangeAt_below hrg HB.out)
   have HNM:=hid (HG.out.name _ (List.getElem_mem hke))
   obtain ⟨f1,f2⟩:=HG.out.fam _ (List.getElem_mem hke)
   have HPV:RowKit.Hid (∀ m,k=m+1→∃ hm:m<l.length,wr.cell? ⟨b,off+m * 3,none⟩=some (.string l[m].name)∧Op.bytesLess l[k].name.toList l[m].name.toList=false∧(l[k].name.toList == l[m].name.toList)=false):=fun m hm=>by
    subst hm
    have hml:m<l.length:=by omega
    obtain ⟨b',off',e,_,hrg'⟩:=HR.out.vw.range (k:=3) (fun x _=>encCrp_len x) (by omega) m hml
    cases e
    exact ⟨hml,(rangeAt_below hrg' HB.out) 0 _ rfl,HG.out.asc m hke⟩
   obtain ⟨kd,hkd⟩:∃ kd,mkB l[k]=kd:=⟨_,rfl⟩
   have HKD:=hid hkd
   unfold mkB at hkd
   clear hrg
   obtain ⟨q,hq⟩:∃ q,l[k]=q:=⟨_,rfl⟩
   rw [hq] at HRG HNM f1 f2 HPV hkd
   clear hq
   obtain ⟨nm,fa,mk⟩:=q
   dsimp only [encCrp] at HRG HNM f1 f2 HPV hkd
   obtain ⟨W1,hW1⟩:∃ W1,wr.alloc (.cells #[.string nm,.int .i64 fa,.int .i64 mk] 44)=W1:=⟨_,rfl⟩
   have BX:RowKit.Hid (Blk W1 wr.heap.size 44 #[.string nm,.int .i64 fa,.int .i64 mk]):=by show Blk _ _ _ _;rw [← hW1];exact Blk.new _ _ _
   have BW:RowKit.Hid (Below wr.heap.size wr W1):=by show Below _ _ _;rw [← hW1];exact Bw.out
   have x0:W1.cell? ⟨wr.heap.size,0,none⟩=some (.string nm):=BX.out.cell 0
   cases kd with
   | false =>
    have hbad:=of_decide_eq_false hkd
    clear hkd
    by_cases k1:mk<0
    ·go_wp2_with (first
      | (refine wpList_load_mid rfl 44 (.tmp 13) rfl b (off+k * 3) rfl [.string nm,.int .i64 fa,.int .i64 mk] _ HRG.out Tryz.underlying44 rfl cpInfo ?_)
      | (refine st_new rfl 44 (.tmp 4) (.tmp 14) rfl #[.string nm,.int .i64 fa,.int .i64 mk] _ _ rfl rfl cpInfo rfl (cp_one _ _ _) ?_;rw [hW1])
      | (go_at_call 128;refine (HNM.out _).mono ?_;rintro e w1 ⟨rfl,hb1⟩;have BX1:=hid (BX.out.below hb1);have y1:w1.cell? ⟨wr.heap.size,1,none⟩=some (.int .i64 fa):=BX1.out.cell 1;have y2:w1.cell? ⟨wr.heap.size,2,none⟩=some (.int .i64 mk):=BX1.out.cell 2))
     go_ret
     exact ⟨14,rfl,⟨fun h=>absurd (h _ (List.getElem_mem hke)) (by rw [HKD.out];decide),fun _=>rfl⟩,btr (btr HB.out BW.out) hb1⟩
    ·have k2:31<mk:=by omega
     go_wp2_with (first
      | (refine wpList_load_mid rfl 44 (.tmp 13) rfl b (off+k * 3) rfl [.string nm,.int .i64 fa,.int .i64 mk] _ HRG.out Tryz.underlying44 rfl cpInfo ?_)
      | (refine st_new rfl 44 (.tmp 4) (.tmp 14) rfl #[.string nm,.int .i64 fa,.int .i64 mk] _ _ rfl rfl cpInfo rfl (cp_one _ _ _) ?_;rw [hW1])
      | (go_at_call 128;refine (HNM.out _).mono ?_;rintro e w1 ⟨rfl,hb1⟩;have BX1:=hid (BX.out.below hb1);have y1:w1.cell? ⟨wr.heap.size,1,none⟩=some (.int .i64 fa):=BX1.out.cell 1;have y2:w1.cell? ⟨wr.heap.size,2,none⟩=some (.int .i64 mk):=BX1.out.cell 2))
     go_ret
     exact ⟨14,rfl,⟨fun h=>absurd (h _ (List.getElem_mem hke)) (by rw [HKD.out];decide),fun _=>rfl⟩,btr (btr HB.out BW.out) hb1⟩
   | true =>
    obtain ⟨k1,k2⟩:=of_decide_eq_true hkd
    clear hkd
    cases k with
    | zero =>
     go_wp2_with (first
      | (refine wpList_load_mid rfl 44 (.tmp 13) rfl b (off+0 * 3) rfl [.string nm,.int .i64 fa,.int .i64 mk] _ HRG.out Tryz.underlying44 rfl cpInfo ?_)
      | (refine st_new rfl 44 (.tmp 4) (.tmp 14) rfl #[.string nm,.int .i64 fa,.int .i64 mk] _ _ rfl rfl cpInfo rfl (cp_one _ _ _) ?_;rw [hW1])
      | (go_at_call 128;refine (HNM.out _).mono ?_;rintro e w1 ⟨rfl,hb1⟩;have BX1:=hid (BX.out.below hb1);have y1:w1.cell? ⟨wr.heap.size,1,none⟩=some (.int .i64 fa):=BX1.out.cell 1;have y2:w1.cell? ⟨wr.heap.size,2,none⟩=some (.int .i64 mk):=BX1.out.cell 2))
     go_quiet (fail)
     go_wp2
     go_roundw
     case rel =>
      refine ⟨1,by omega,by go_num,fun j hj hjk=>?_,(by (repeat (with_reducible first | exact btr (btr HB.out BW.out) hb1 | exact Below.refl _ _ | refine bdr ?_ | refine bdn ?_ _ | refine bal ?_ _)))⟩
      obtain rfl:j=0:=by omega
      exact HKD.out
     case measure=>simp [intOf];omega
    | succ m =>
     obtain ⟨hml,p0,l1,l2⟩:=HPV.out m rfl
     obtain ⟨pn,hpn⟩:∃ pn,l[m].name=pn:=⟨_,rfl⟩
     rw [hpn] at p0 l1 l2
     clear hpn
     go_wp2_with (first
      | (refine wpList_load_mid rfl 44 (.tmp 13) rfl b (off+(m+1) * 3) rfl [.string nm,.int .i64 fa,.int .i64 mk] _ HRG.out Tryz.underlying44 rfl cpInfo ?_)
      | (refine st_new rfl 44 (.tmp 4) (.tmp 14) rfl #[.string nm,.int .i64 fa,.int .i64 mk] _ _ rfl rfl cpInfo rfl (cp_one _ _ _) ?_;rw [hW1])
      | (go_at_call 128;refine (HNM.out _).mono ?_;rintro e w1 ⟨rfl,hb1⟩;have BX1:=hid (BX.out.below hb1);have y0:w1.cell? ⟨wr.heap.size,0,none⟩=some (.string nm):=BX1.out.cell 0;have y1:w1.cell? ⟨wr.heap.size,1,none⟩=some (.int .i64 fa):=BX1.out.cell 1;have y2:w1.cell? ⟨wr.heap.size,2,none⟩=some (.int .i64 mk):=BX1.out.cell 2;have q0:=bc1 (btr BW.out hb1) p0))
     go_quiet (fail)
     go_wp2
     go_roundw
     case rel =>
      refine ⟨m+1+1,by omega,by go_num,fun j hj hjk=>?_,(by (repeat (with_reducible first | exact btr (btr HB.out BW.out) hb1 | exact Below.refl _ _ | refine bdr ?_ | refine bdn ?_ _ | refine bal ?_ _)))⟩
      by_cases e:j=m+1
      ·subst e;exact HKD.out
      ·exact NO.out j hj (by omega)
     case measure=>simp [intOf];omega
  ·go_wp2
   go_ret
   refine ⟨0,rfl,⟨fun _=>rfl,fun ⟨f,hf,h⟩=>?_⟩,HB.out⟩
   obtain ⟨j,hj,rfl⟩:=List.getElem_of_mem hf
   rw [NO.out j hj (by have:=HN.out;omega)] at h
   cases h
theorem nameOk8 (k:Nat) (hk:k<8):NameOk (nm8[k]'hk):=fun W=>name_any k hk W W (Below.refl _ _)
theorem asc8:∀ m (h:m+1<8),Op.bytesLess (nm8[m+1]'h).toList (nm8[m]'(show m<8 from Nat.lt_of_succ_lt h)).toList=false∧((nm8[m+1]'h).toList == (nm8[m]'(show m<8 from Nat.lt_of_succ_lt h)).toList)=false:=by
 intro m h
 match m,h with
 | 0,_=>exact ⟨by kernel_rfl,by kernel_rfl⟩
 | 1,_=>exact ⟨by kernel_rfl,by kernel_rfl⟩
 | 2,_=>exact ⟨by kernel_rfl,by kernel_rfl⟩
 | 3,_=>exact ⟨by kernel_rfl,by kernel_rfl⟩
 | 4,_=>exact ⟨by kernel_rfl,by kernel_rfl⟩
 | 5,_=>exact ⟨by kernel_rfl,by kernel_rfl⟩
 | 6,_=>exact ⟨by kernel_rfl,by kernel_rfl⟩
 | m+7,h=>omega
theorem Cat.toM {l:List Crp} (h:Cat l):CatM l where
 len:=by have:=h.len;omega
 name:=fun c hc=>by
  obtain ⟨k,hk,rfl⟩:=List.getElem_of_mem hc
  rw [h.name k hk];exact nameOk8 k _
 fam:=h.fam
 asc:=fun m hm=>by
  rw [h.name (m+1) hm,h.name m (by omega)]
  exact asc8 m (by have:=h.len;omega)
end Go.Proofs.YtancajcelmhnkaaGreatDoor
