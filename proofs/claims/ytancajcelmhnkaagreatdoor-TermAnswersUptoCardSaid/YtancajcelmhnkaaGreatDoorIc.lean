/- ref12.Marks and Unmarks,ref16.letter at any word. -/
import Derived.Test.YtancajcelmhnkaaGreatDoorIb
import Derived.Shelf.Unicode.PredsPay
set_option maxRecDepth 100000
set_option maxHeartbeats 4000000
namespace Go.Proofs.YtancajcelmhnkaaGreatDoor
open Go.RowKit Go.Sort Go.Shelf
set_option linter.unusedVariables false
set_option linter.unusedSimpArgs false
def mkL (m:Nat):Nat→List UInt8
 | 0=>[]
 | i+1=>mkL m i++(if m / 2 ^ i % 2=1 then [([112,103,99,102,108]:List UInt8).getD i 0] else [])
def mkByt (m:Nat):ByteArray:=if mkL m 5=[] then ⟨#[45]⟩ else ⟨(mkL m 5).toArray⟩
theorem mkL_len (m:Nat):∀ i,(mkL m i).length≤i
 | 0=>Nat.le_refl _
 | i+1=>by
  have:=mkL_len m i
  rw [mkL,List.length_append]
  split <;> simp <;> omega
theorem bit_and {x:Int} (h0:0≤x) (h1:x<4611686018427387904):bits .and .i64 x 1=x % 2 :=
 bits_mask .i64 62 (by decide) (fun n h0 h1=>IntWalk.i64_in n (by simp only [Int.reducePow] at h1;omega)) 1 (by decide) x h0 (by simpa using h1)
theorem rmarks_any (m:Nat) (hm:m<32) (w:World):Calls Tryz.prog 116 #[.int .i64 m] w fun e w'=>e=.returned (.string (mkByt m))∧w'=w:=by
 go_enter Tryz.func116,Tryz.ntmps116
 go_wp2
 go_loopw [3,4] (fun v i wr=>∃ p:Nat,v=.string ⟨(mkL m p).toArray⟩∧i=.int .i64 p∧p≤5∧wr=w) (fun _ i _=>5 - (intOf i).toNat)
 case atStart=>exact ⟨0,rfl,rfl,by omega,rfl⟩
 case round =>
  obtain ⟨p,rfl,rfl,hp,rfl⟩:=hrel
  have hlen:=mkL_len m p
  by_cases h5:p=5
  ·subst h5
   by_cases hz:mkL m 5=[]
   ·rw [hz]
    go_wp2
    go_ret
    have e:mkByt m=⟨#[45]⟩:=if_pos hz
    rw [e];exact ⟨rfl,rfl⟩
   ·obtain ⟨b,r,hbr⟩:=List.exists_cons_of_ne_nil hz
    have hq:((⟨(mkL m 5).toArray⟩:ByteArray).toList.isEmpty)=false:=by rw [ByteArray.toList_mk,hbr];rfl
    go_wp2
    go_ret
    have e:mkByt m=⟨(mkL m 5).toArray⟩:=if_neg hz
    rw [e];exact ⟨rfl,rfl⟩
  ·have hc:p=0∨p=1∨p=2∨p=3∨p=4:=by omega
   rcases hc with rfl | rfl | rfl | rfl | rfl
   ·have hx:((m / 2 ^ 0:Nat):Int)=(m:Int):=by simp
    have hb:=bit_and (x:=(m:Int)) (by omega) (by omega)
    have hs:mkL m 1=mkL m 0++(if m / 2 ^ 0 % 2=1 then [112] else []):=rfl
    have he:(⟨#[112,103,99,102,108]⟩:ByteArray).extract 0 1=⟨#[112]⟩:=by decide
    have HS:=hid hs;have HE:=hid he
    clear hs he
    by_cases h1:m / 2 ^ 0 % 2=1
    ·have hb1:bits .and .i64 (m:Int) 1=1:=by rw [hb];omega
     clear hb
     go_wp2
     go_roundw
     case rel =>
      refine ⟨1,?_,rfl,by omega,trivial⟩
      rw [HS.out,if_pos h1,HE.out,str_app]
     case measure=>simp [intOf]
    ·have hb1:bits .and .i64 (m:Int) 1=0:=by rw [hb];omega
     clear hb
     go_wp2
     go_roundw
     case rel =>
      refine ⟨1,?_,rfl,by omega,trivial⟩
      rw [HS.out,if_neg h1,List.append_nil]
     case measure=>simp [intOf]
   ·have hx:((m / 2 ^ 1:Nat):Int)=((m:Int) / 2):=by simp
    have hb:=bit_and (x:=((m:Int) / 2)) (by omega) (by omega)
    have hs:mkL m 2=mkL m 1++(if m / 2 ^ 1 % 2=1 then [103] else []):=rfl
    have he:(⟨#[112,103,99,102,108]⟩:ByteArray).extract 1 2=⟨#[103]⟩:=by decide
    have HS:=hid hs;have HE:=hid he
    clear hs he
    by_cases h1:m / 2 ^ 1 % 2=1
    ·have hb1:bits .and .i64 ((m:Int) / 2) 1=1:=by rw [hb];omega
     clear hb
     go_wp2
     go_roundw
     case rel =>
      refine ⟨2,?_,rfl,by omega,trivial⟩
      rw [HS.out,if_pos h1,HE.out,str_app]
     case measure=>simp [intOf]
    ·have hb1:bits .and .i64 ((m:Int) / 2) 1=0:=by rw [hb];omega
     clear hb
     go_wp2
     go_roundw
     case rel =>
      refine ⟨2,?_,rfl,by omega,trivial⟩
      rw [HS.out,if_neg h1,List.append_nil]
     case measure=>simp [intOf]
   ·have hx:((m / 2 ^ 2:Nat):Int)=((m:Int) / 4):=by simp
    have hb:=bit_and (x:=((m:Int) / 4)) (by omega) (by omega)
    have hs:mkL m 3=mkL m 2++(if m / 2 ^ 2 % 2=1 then [99] else []):=rfl
    have he:(⟨#[112,103,99,102,108]⟩:ByteArray).extract 2 3=⟨#[99]⟩:=by decide
    have HS:=hid hs;have HE:=hid he
    clear hs he
    by_cases h1:m / 2 ^ 2 % 2=1
    ·have hb1:bits .and .i64 ((m:Int) / 4) 1=1:=by rw [hb];omega
     clear hb
     go_wp2
     go_roundw
     case rel =>
      refine ⟨3,?_,rfl,by omega,trivial⟩
      rw [HS.out,if_pos h1,HE.out,str_app]
     case measure=>simp [intOf]
    ·have hb1:bits .and .i64 ((m:Int) / 4) 1=0:=by rw [hb];omega
     clear hb
     go_wp2
     go_roundw
     case rel =>
      refine ⟨3,?_,rfl,by omega,trivial⟩
      rw [HS.out,if_neg h1,List.append_nil]
     case measure=>simp [intOf]
   ·have hx:((m / 2 ^ 3:Nat):Int)=((m:Int) / 8):=by simp
    have hb:=bit_and (x:=((m:Int) / 8)) (by omega) (by omega)
    have hs:mkL m 4=mkL m 3++(if m / 2 ^ 3 % 2=1 then [102] else []):=rfl
    have he:(⟨#[112,103,99,102,108]⟩:ByteArray).extract 3 4=⟨#[102]⟩:=by decide
    have HS:=hid hs;have HE:=hid he
    clear hs he
    by_cases h1:m / 2 ^ 3 % 2=1
    ·have hb1:bits .and .i64 ((m:Int) / 8) 1=1:=by rw [hb];omega
     clear hb
     go_wp2
     go_roundw
     case rel =>
      refine ⟨4,?_,rfl,by omega,trivial⟩
      rw [HS.out,if_pos h1,HE.out,str_app]
     case measure=>simp [intOf]
    ·have hb1:bits .and .i64 ((m:Int) / 8) 1=0:=by rw [hb];omega
     clear hb
     go_wp2
     go_roundw
     case rel =>
      refine ⟨4,?_,rfl,by omega,trivial⟩
      rw [HS.out,if_neg h1,List.append_nil]
     case measure=>simp [intOf]
   ·have hx:((m / 2 ^ 4:Nat):Int)=((m:Int) / 16):=by simp
    have hb:=bit_and (x:=((m:Int) / 16)) (by omega) (by omega)
    have hs:mkL m 5=mkL m 4++(if m / 2 ^ 4 % 2=1 then [108] else []):=rfl
    have he:(⟨#[112,103,99,102,108]⟩:ByteArray).extract 4 5=⟨#[108]⟩:=by decide
    have HS:=hid hs;have HE:=hid he
    clear hs he
    by_cases h1:m / 2 ^ 4 % 2=1
    ·have hb1:bits .and .i64 ((m:Int) / 16) 1=1:=by rw [hb];omega
     clear hb
     go_wp2
     go_roundw
     case rel =>
      refine ⟨5,?_,rfl,by omega,trivial⟩
      rw [HS.out,if_pos h1,HE.out,str_app]
     case measure=>simp [intOf]
    ·have hb1:bits .and .i64 ((m:Int) / 16) 1=0:=by rw [hb];omega
     clear hb
     go_wp2
     go_roundw
     case rel =>
      refine ⟨5,?_,rfl,by omega,trivial⟩
      rw [HS.out,if_neg h1,List.append_nil]
     case measure=>simp [intOf]
theorem str_ne {t s:ByteArray} (h:t ≠ s):(t.toList == s.toList)=false:=by
 rw [str_eqs,decide_eq_false_iff_not]
 exact fun e=>h (ByteArray.ext (Array.toList_inj.1 e))
def UnP (s:ByteArray) (w:World) (e:Ending) (w':World):Prop:=∃ (r:Nat) (ok:Bool),e=.returned (.tuple #[.int .i64 r,.bool ok])∧(ok=true→r<32∧mkByt r=s)∧(ok=false→∀ m,m<32→mkByt m ≠ s)∧w'=w
theorem runmarks_any (s:ByteArray) (w:World):Calls Tryz.prog 169 #[.string s] w (UnP s w):=by
 have HM:=hid rmarks_any
 go_enter Tryz.func169,Tryz.ntmps169
 go_wp2
 go_loopw [4] (fun i wr=>∃ p:Nat,i=.int .i64 p∧p≤32∧(∀ m,m<p→mkByt m ≠ s)∧wr=w) (fun i _=>32 - (intOf i).toNat)
 case atStart=>exact ⟨0,rfl,by omega,fun m h=>absurd h (by omega),rfl⟩
 case round =>
  obtain ⟨p,rfl,hp,hno,rfl⟩:=hrel
  have HNO:=hid hno
  clear hno
  by_cases hlt:p<32
  ·have HP:=hid (HM.out p hlt)
   obtain ⟨t,ht⟩:∃ t,mkByt p=t:=⟨_,rfl⟩
   rw [ht] at HP
   by_cases he:t=s
   ·subst he
    go_wp2_with (go_at_call 116;refine (HP.out _).mono ?_;rintro e w1 ⟨rfl,rfl⟩)
    go_ret2
    exact ⟨p,true,rfl,fun _=>⟨hlt,ht⟩,(fun h=>by cases h),rfl⟩
   ·have q0:(t.toList == s.toList)=false:=str_ne he
    go_wp2_with (go_at_call 116;refine (HP.out _).mono ?_;rintro e w1 ⟨rfl,rfl⟩)
    go_roundw
    case rel =>
     refine ⟨p+1,rfl,by omega,fun m hm=>?_,trivial⟩
     by_cases e:m=p
     ·rw [e,ht];exact he
     ·exact HNO.out m (by omega)
    case measure=>simp [intOf];omega
  ·obtain rfl:p=32:=by omega
   go_wp2
   go_ret2
   exact ⟨0,false,rfl,(fun h=>by cases h),fun _=>HNO.out,rfl⟩
theorem letV_mk:∀ r:Fin 32,letV (mkByt r.val)=if r.val=1∨r.val=2∨r.val=4∨r.val=8∨r.val=16 then (r.val:Int) else 0:=by decide +kernel
theorem letV_no {s:ByteArray} (h:∀ m,m<32→mkByt m ≠ s):letV s=0:=by
 rcases letV_cases s with ⟨_,e⟩ | ⟨_,e⟩ | ⟨_,e⟩ | ⟨_,e⟩ | ⟨_,e⟩ | ⟨e,_⟩
 ·exact absurd (e ▸ (by decide +kernel:mkByt 1=⟨#[112]⟩)) (h 1 (by decide))
 ·exact absurd (e ▸ (by decide +kernel:mkByt 2=⟨#[103]⟩)) (h 2 (by decide))
 ·exact absurd (e ▸ (by decide +kernel:mkByt 4=⟨#[99]⟩)) (h 4 (by decide))
 ·exact absurd (e ▸ (by decide +kernel:mkByt 8=⟨#[102]⟩)) (h 8 (by decide))
 ·exact absurd (e ▸ (by decide +kernel:mkByt 16=⟨#[108]⟩)) (h 16 (by decide))
 ·exact e
structure NumW (w:World):Prop where
 tab : Lib.TabIs Tryz.prog w "internal/strconv.uint64pow10" .u64 Lib.pow10Tab
 syn:∃ ev,w.cell? ⟨3,0,none⟩=some ev∧(ev=.nilIface∨∃ te pe,ev=.iface te pe)
 ran:∃ ev,w.cell? ⟨4,0,none⟩=some ev∧(ev=.nilIface∨∃ te pe,ev=.iface te pe)
def NumB (rb:Nat):Prop:=3 ≠ rb∧4 ≠ rb∧5 ≠ rb
theorem TabIs_kept {S:Nat→Prop} {n:String} {g:Nat} {k:IntKind} {zs:List Int} {w w':World} (hg:Tryz.prog.globalNamed n=some g) (h:Lib.TabIs Tryz.prog w n k zs) (hk:Kept S w w') (hS:¬ S g):Lib.TabIs Tryz.prog w' n k zs:=by
 unfold Lib.TabIs World.var? at h ⊢
 rw [hg] at h ⊢
 simp only [Option.bind_some] at h ⊢
 have hlt:g<w.heap.size:=by
  rcases Nat.lt_or_ge g w.heap.size with h' | h'
  ·exact h'
  ·rw [Array.getElem?_eq_none h'] at h;cases h
 rw [hk.block g hlt hS]
 exact h
theorem NumW.kept {S:Nat→Prop} {w w':World} (h:NumW w) (hk:Kept S w w') (h1:¬ S 3) (h2:¬ S 4) (h3:¬ S 5):NumW w':=by
 refine ⟨TabIs_kept (g:=5) (by kernel_rfl) h.tab hk h3,?_,?_⟩
 ·obtain ⟨ev,e1,e2⟩:=h.syn;exact ⟨ev,cell_keptT hk e1 h1,e2⟩
 ·obtain ⟨ev,e1,e2⟩:=h.ran;exact ⟨ev,cell_keptT hk e1 h2,e2⟩
theorem NumW.lt {w:World} (h:NumW w) {rb:Nat} (hr:w.heap.size≤rb):NumB rb:=by
 obtain ⟨ev,e1,_⟩:=h.syn
 obtain ⟨ev2,e2,_⟩:=h.ran
 have l1:=World.block_lt_of_cell? w _ e1
 have l2:=World.block_lt_of_cell? w _ e2
 have l3:=World.block_lt_of_cell? w _ (h.tab.cell (g:=5) (by kernel_rfl) 0 (by decide))
 simp only at l1 l2 l3
 exact ⟨by omega,by omega,by omega⟩
theorem NumW.below {w w':World} (h:NumW w) (hb:Below w.heap.size w w'):NumW w':=by
 refine ⟨TabIs_below (g:=5) (by kernel_rfl) h.tab hb,?_,?_⟩
 ·obtain ⟨ev,h1,h2⟩:=h.syn;exact ⟨ev,bc1 hb h1,h2⟩
 ·obtain ⟨ev,h1,h2⟩:=h.ran;exact ⟨ev,bc1 hb h1,h2⟩
theorem bytesBelow (W:World) (t:TypeId) (k:ByteArray):Below W.heap.size W (Lib.bytesWorld W t k):=Go.Joins.below_bytesWorld _ W _ k (Nat.le_refl _)
theorem nuV_is {s:ByteArray} {v:Int} (h:s=⟨(Lib.itoa v).toArray⟩) (h1:-1125899906842624≤v) (h2:v≤1125899906842624):nuV s=some v:=by
 subst h
 unfold nuV
 simpa using numV_some h1 h2
theorem nuV_no {s:ByteArray} {v:Int} (ha:Lib.atoiAll s.data.toList=.ok v) (h:s=⟨(Lib.itoa v).toArray⟩→-1125899906842624≤v→v≤1125899906842624→False):nuV s=none:=by
 refine numV_atoi (by decide) (by decide) fun u h1 h2 h3 h4=>?_
 rw [ha] at h1
 cases h1
 exact h (by rw [← h2]) h3 h4
theorem nuV_bad {s:ByteArray} (ha:∀ v,Lib.atoiAll s.data.toList ≠ .ok v):nuV s=none :=
 numV_atoi (by decide) (by decide) fun u h1 _ _ _=>ha u h1
theorem xnum_any (s:ByteArray) (hs:s.size≤1000) (W:World) (hN:NumW W) :
  Calls Tryz.prog 163 #[.string s,.int .i64 (-1125899906842624),.int .i64 1125899906842624] W fun e w'=>e=.returned (.tuple #[.int .i64 ((nuV s).getD 0),.bool (nuV s).isSome])∧Below W.heap.size W w':=by
 have HE:((∀ v,Lib.atoiAll s.data.toList ≠ .ok v)∧Lib.atoiAll s.data.toList ≠ .range)∨Lib.atoiAll s.data.toList=.range∨∃ v,Lib.atoiAll s.data.toList=.ok v:=by
  cases Lib.atoiAll s.data.toList <;> simp
 rcases HE with ⟨ha,ha'⟩ | ha | ⟨v,ha⟩
 ·
  rw [nuV_bad ha]
  obtain ⟨ev,e1,e2⟩:=hN.syn
  have HA:=hid (Tryz.strconv_Atoi_syntax s (by omega) ha ha' ev W e1 e2)
  clear ha ha' hN e1 e2
  go_enter Tryz.func163,Tryz.ntmps163
  go_wp2_with (go_at_call 193;refine HA.out.mono ?_;rintro e w1 ⟨M,rfl,-,-,hb⟩;have HB:=hid hb;clear hb)
  go_ret2
  exact ⟨rfl,HB.out⟩
 ·
  rw [nuV_bad (fun v h=>by rw [ha] at h;cases h)]
  obtain ⟨ev,e1,e2⟩:=hN.ran
  have HA:=hid (Tryz.strconv_Atoi_range s (by omega) ha ev W e1 e2)
  clear ha hN e1 e2
  go_enter Tryz.func163,Tryz.ntmps163
  go_wp2_with (go_at_call 193;refine HA.out.mono ?_;rintro e w1 ⟨M,rfl,-,-,hb⟩;have HB:=hid hb;clear hb)
  go_ret2
  exact ⟨rfl,HB.out⟩
 ·
  obtain ⟨b1,b2⟩:=Lib.atoiAll_bounds ha
  have HA:=hid (Tryz.strconv_Atoi_ok s (by omega) v ha W)
  have HI:=hid fun W' (hW':Below W.heap.size W W')=>Tryz.strconv_Itoa v b1 b2 W' (hN.below hW').tab
  have HV:=hid fun (h1:s=⟨(Lib.itoa v).toArray⟩)=>nuV_is (s:=s) (v:=v) h1
  have HM:=hid fun (h1:s=⟨(Lib.itoa v).toArray⟩→-1125899906842624≤v→v≤1125899906842624→False)=>nuV_no (s:=s) (v:=v) ha h1
  clear ha hN
  obtain ⟨t,ht⟩:∃ t:ByteArray,⟨(Lib.itoa v).toArray⟩=t:=⟨_,rfl⟩
  rw [ht] at HI HV HM
  clear ht
  by_cases he:t=s
  ·subst he
   have HV2:=hid (HV.out rfl);have HM2:=hid fun (h:¬ (-1125899906842624≤v∧v≤1125899906842624))=>HM.out fun _ h1 h2=>h ⟨h1,h2⟩
   clear HV HM
   have q1:(t.toList == t.toList)=true:=by simp
   by_cases l1:v < -1125899906842624
   ·have l3:v≤1125899906842624:=by omega
    go_enter Tryz.func163,Tryz.ntmps163
    go_wp2_with (first
     | (go_at_call 193;refine HA.out.mono ?_;rintro e w1 ⟨rfl,h1⟩;have HB:RowKit.Hid (Below W.heap.size W w1):=(by rcases h1 with rfl | ⟨t,rfl⟩;(exact Below.refl _ _);exact bytesBelow _ _ _);clear h1)
     | (go_at_call 192;refine (HI.out _ HB.out).mono ?_;rintro e w2 ⟨rfl,h2⟩;have HB2:RowKit.Hid (Below W.heap.size W w2):=(by obtain ⟨k,os,rfl⟩:=h2;exact btr HB.out (Lib.below_grow _ _ (Nat.le_refl _) k os));clear h2))
    go_ret2
    rw [HM2.out (by omega)]
    exact ⟨rfl,HB2.out⟩
   ·by_cases l2:(1125899906842624:Int)<v
    ·go_enter Tryz.func163,Tryz.ntmps163
     go_wp2_with (first
      | (go_at_call 193;refine HA.out.mono ?_;rintro e w1 ⟨rfl,h1⟩;have HB:RowKit.Hid (Below W.heap.size W w1):=(by rcases h1 with rfl | ⟨t,rfl⟩;(exact Below.refl _ _);exact bytesBelow _ _ _);clear h1)
      | (go_at_call 192;refine (HI.out _ HB.out).mono ?_;rintro e w2 ⟨rfl,h2⟩;have HB2:RowKit.Hid (Below W.heap.size W w2):=(by obtain ⟨k,os,rfl⟩:=h2;exact btr HB.out (Lib.below_grow _ _ (Nat.le_refl _) k os));clear h2))
     go_ret2
     rw [HM2.out (by omega)]
     exact ⟨rfl,HB2.out⟩
    ·go_enter Tryz.func163,Tryz.ntmps163
     go_wp2_with (first
      | (go_at_call 193;refine HA.out.mono ?_;rintro e w1 ⟨rfl,h1⟩;have HB:RowKit.Hid (Below W.heap.size W w1):=(by rcases h1 with rfl | ⟨t,rfl⟩;(exact Below.refl _ _);exact bytesBelow _ _ _);clear h1)
      | (go_at_call 192;refine (HI.out _ HB.out).mono ?_;rintro e w2 ⟨rfl,h2⟩;have HB2:RowKit.Hid (Below W.heap.size W w2):=(by obtain ⟨k,os,rfl⟩:=h2;exact btr HB.out (Lib.below_grow _ _ (Nat.le_refl _) k os));clear h2))
     go_ret2
     rw [HV2.out (by omega) (by omega)]
     exact ⟨rfl,HB2.out⟩
  ·have HM2:=hid (HM.out fun h=>absurd h.symm he)
   have q1:(t.toList == s.toList)=false:=str_ne he
   go_enter Tryz.func163,Tryz.ntmps163
   go_wp2_with (first
    | (go_at_call 193;refine HA.out.mono ?_;rintro e w1 ⟨rfl,h1⟩;have HB:RowKit.Hid (Below W.heap.size W w1):=(by rcases h1 with rfl | ⟨t,rfl⟩;(exact Below.refl _ _);exact bytesBelow _ _ _);clear h1)
    | (go_at_call 192;refine (HI.out _ HB.out).mono ?_;rintro e w2 ⟨rfl,h2⟩;have HB2:RowKit.Hid (Below W.heap.size W w2):=(by obtain ⟨k,os,rfl⟩:=h2;exact btr HB.out (Lib.below_grow _ _ (Nat.le_refl _) k os));clear h2))
   go_ret2
   rw [HM2.out]
   exact ⟨rfl,HB2.out⟩
theorem size_one {s:ByteArray} (h:s.size=1):∃ c,s=⟨#[c]⟩:=by
 obtain ⟨⟨l⟩⟩:=s
 match l,h with
 | [c],_=>exact ⟨c,rfl⟩
theorem letV_len {s:ByteArray} (h:s.size ≠ 1):letV s=0:=by
 rcases letV_cases s with ⟨_,e⟩ | ⟨_,e⟩ | ⟨_,e⟩ | ⟨_,e⟩ | ⟨_,e⟩ | ⟨e,_⟩
 iterate 5 (exact absurd (by rw [e];rfl) h)
 exact e
theorem xcmark (s:ByteArray) (W:World) :
  Calls Tryz.prog 164 #[.string s] W fun e w'=>e=.returned (.int .i64 (letV s))∧Below W.heap.size W w':=by
 by_cases h1:s.size=1
 ·obtain ⟨c,rfl⟩:=size_one h1
  clear h1
  have HC:=hid (Tryz.strings_Contains_one ⟨#[112,103,99,102,108]⟩ c W)
  have HI:=hid (Tryz.strings_Index_one ⟨#[112,103,99,102,108]⟩ c W)
  by_cases e0:c=112
  ·subst e0
   have q:Lib.indexByte (⟨#[112,103,99,102,108]⟩:ByteArray).data.toList 112=0:=by decide +kernel
   rw [q] at HC HI
   rw [show letV ⟨#[112]⟩=1 by decide +kernel]
   go_enter Tryz.func164,Tryz.ntmps164
   go_wp2_with (first
    | (go_at_call 194;refine HC.out.mono ?_;rintro e w1 ⟨rfl,rfl⟩)
    | (go_at_call 195;refine HI.out.mono ?_;rintro e w2 ⟨rfl,rfl⟩))
   go_ret
   exact ⟨rfl,Below.refl _ _⟩
  by_cases e1:c=103
  ·subst e1
   have q:Lib.indexByte (⟨#[112,103,99,102,108]⟩:ByteArray).data.toList 103=1:=by decide +kernel
   rw [q] at HC HI
   rw [show letV ⟨#[103]⟩=2 by decide +kernel]
   go_enter Tryz.func164,Tryz.ntmps164
   go_wp2_with (first
    | (go_at_call 194;refine HC.out.mono ?_;rintro e w1 ⟨rfl,rfl⟩)
    | (go_at_call 195;refine HI.out.mono ?_;rintro e w2 ⟨rfl,rfl⟩))
   go_ret
   exact ⟨rfl,Below.refl _ _⟩
  by_cases e2:c=99
  ·subst e2
   have q:Lib.indexByte (⟨#[112,103,99,102,108]⟩:ByteArray).data.toList 99=2:=by decide +kernel
   rw [q] at HC HI
   rw [show letV ⟨#[99]⟩=4 by decide +kernel]
   go_enter Tryz.func164,Tryz.ntmps164
   go_wp2_with (first
    | (go_at_call 194;refine HC.out.mono ?_;rintro e w1 ⟨rfl,rfl⟩)
    | (go_at_call 195;refine HI.out.mono ?_;rintro e w2 ⟨rfl,rfl⟩))
   go_ret
   exact ⟨rfl,Below.refl _ _⟩
  by_cases e3:c=102
  ·subst e3
   have q:Lib.indexByte (⟨#[112,103,99,102,108]⟩:ByteArray).data.toList 102=3:=by decide +kernel
   rw [q] at HC HI
   rw [show letV ⟨#[102]⟩=8 by decide +kernel]
   go_enter Tryz.func164,Tryz.ntmps164
   go_wp2_with (first
    | (go_at_call 194;refine HC.out.mono ?_;rintro e w1 ⟨rfl,rfl⟩)
    | (go_at_call 195;refine HI.out.mono ?_;rintro e w2 ⟨rfl,rfl⟩))
   go_ret
   exact ⟨rfl,Below.refl _ _⟩
  by_cases e4:c=108
  ·subst e4
   have q:Lib.indexByte (⟨#[112,103,99,102,108]⟩:ByteArray).data.toList 108=4:=by decide +kernel
   rw [q] at HC HI
   rw [show letV ⟨#[108]⟩=16 by decide +kernel]
   go_enter Tryz.func164,Tryz.ntmps164
   go_wp2_with (first
    | (go_at_call 194;refine HC.out.mono ?_;rintro e w1 ⟨rfl,rfl⟩)
    | (go_at_call 195;refine HI.out.mono ?_;rintro e w2 ⟨rfl,rfl⟩))
   go_ret
   exact ⟨rfl,Below.refl _ _⟩
  have q:Lib.indexByte (⟨#[112,103,99,102,108]⟩:ByteArray).data.toList c = -1:=by
   show Lib.indexByte [112,103,99,102,108] c = -1
   simp [Lib.indexByte,Ne.symm e0,Ne.symm e1,Ne.symm e2,Ne.symm e3,Ne.symm e4]
  rw [q] at HC
  have hl:letV ⟨#[c]⟩=0:=by
   rcases letV_cases ⟨#[c]⟩ with ⟨_,e⟩ | ⟨_,e⟩ | ⟨_,e⟩ | ⟨_,e⟩ | ⟨_,e⟩ | ⟨e,_⟩
   iterate 5 (first | (have:c=112:=(by injection e with e;simpa using e);exact absurd this e0) | (have:c=103:=(by injection e with e;simpa using e);exact absurd this e1) | (have:c=99:=(by injection e with e;simpa using e);exact absurd this e2) | (have:c=102:=(by injection e with e;simpa using e);exact absurd this e3) | (have:c=108:=(by injection e with e;simpa using e);exact absurd this e4))
   exact e
  rw [hl]
  clear q hl
  go_enter Tryz.func164,Tryz.ntmps164
  go_wp2_with (go_at_call 194;refine HC.out.mono ?_;rintro e w1 ⟨rfl,rfl⟩)
  go_ret
  exact ⟨rfl,Below.refl _ _⟩
 ·rw [letV_len h1]
  have h2:¬ (s.size:Int)=1:=by omega
  go_enter Tryz.func164,Tryz.ntmps164
  go_wp2
  go_ret
  exact ⟨rfl,Below.refl _ _⟩
structure TRx (w:World) (rb nb:Nat) (ws:List ByteArray) (fl:Bool):Prop where
 ex:∃ (a:Option Addr) (c:Nat),Blk w rb 124 #[.slice a ws.length c,.bool fl]∧(∀ i s,ws[i]? = some s→∃ off,a=some ⟨nb,off,none⟩∧w.cell? ⟨nb,off+i,none⟩=some (.string s))∧ws.length≤c∧c≤9223372036854775807∧(a=none∨∃ b off:Nat,a=some ⟨b,off,none⟩)
 ne:nb ≠ rb
section
variable {w w':World} {rb nb:Nat} {ws:List ByteArray} {fl:Bool}
theorem TRx.lt (h:TRx w rb nb ws fl):rb<w.heap.size:=by
 obtain ⟨⟨_,_,h,_⟩,_⟩:=h;exact h.lt
theorem TRx.kept {S:Nat→Prop} (h:TRx w rb nb ws fl) (hk:Kept S w w') (h1:¬ S rb) (h2:¬ S nb):TRx w' rb nb ws fl:=by
 obtain ⟨⟨a,c,hb,hc,hl⟩,hn⟩:=h
 refine ⟨⟨a,c,hk.blk hb h1,fun i s hi=>?_,hl⟩,hn⟩
 obtain ⟨off,e,h⟩:=hc i s hi
 exact ⟨off,e,cell_keptT hk h h2⟩
theorem TRx.behind (h:TRx w rb nb ws fl) (hb:Below w.heap.size w w'):TRx w' rb nb ws fl:=h.kept (S:=fun _=>False) (Kept.below hb) (fun c=>c) (fun c=>c)
theorem TRx.setRow {g:Nat} {cs:Array Value} (h:TRx w rb nb ws fl) (h1:rb ≠ g) (h2:nb ≠ g):TRx (w.setRow g cs) rb nb ws fl:=by
 obtain ⟨⟨a,c,hb,hc,hl⟩,hn⟩:=h
 refine ⟨⟨a,c,(setRow_other _ _ _ _ h1).trans hb,fun i s hi=>?_,hl⟩,hn⟩
 obtain ⟨off,e,h⟩:=hc i s hi
 exact ⟨off,e,(World.cell?_of_block (w:=w) (a:=⟨nb,off+i,none⟩) (setRow_other _ _ _ _ h2)).trans h⟩
theorem TRx.grown {base k n:Nat} {e:TypeId} {v:Value} {xs:List Value} (h:TRx w rb nb ws fl) (ho:w.ownsRow base e k v n xs) (h1:rb<base) (h2:nb<base) (hg:w.grownBy w' v.ownBlock):TRx w' rb nb ws fl:=by
 have key:∀ b,b<base→b<w.heap.size→w'.heap[b]? = w.heap[b]?:=fun b hb hl=>hg.block b hl (by
  rcases ho.2 with ⟨rfl,_⟩ | ⟨g,cap,cur,rfl,hbg,_⟩
  ·simp [Value.ownBlock]
  ·simp [Value.ownBlock];omega)
 obtain ⟨⟨a,c,hb,hc,hl⟩,hn⟩:=h
 refine ⟨⟨a,c,(key rb h1 hb.lt).trans hb,fun i s hi=>?_,hl⟩,hn⟩
 obtain ⟨off,e,h⟩:=hc i s hi
 exact ⟨off,e,(World.cell?_of_block (w:=w) (a:=⟨nb,off+i,none⟩) (key nb h2 (World.block_lt_of_cell? w _ h))).trans h⟩
theorem TRx.first {s:ByteArray} (h:TRx w rb nb (s :: ws) fl):∃ off n c,w.cell? ⟨rb,0,none⟩=some (.slice (some ⟨nb,off,none⟩) (n+1) c)∧w.cell? ⟨rb,1,none⟩=some (.bool fl)∧w.cell? ⟨nb,off,none⟩=some (.string s)∧n+1≤c∧c≤9223372036854775807:=by
 obtain ⟨⟨a,c,hb,hc,hl,hm,_⟩,_⟩:=h
 obtain ⟨off,rfl,h0⟩:=hc 0 s rfl
 exact ⟨off,ws.length,c,hb.cell 0,hb.cell 1,h0,by simpa using hl,hm⟩
theorem TRx.empty (h:TRx w rb nb [] fl):∃ a c,w.cell? ⟨rb,0,none⟩=some (.slice a 0 c)∧w.cell? ⟨rb,1,none⟩=some (.bool fl):=by
 obtain ⟨⟨a,c,hb,_⟩,_⟩:=h
 exact ⟨a,c,hb.cell 0,hb.cell 1⟩
theorem TRx.flag (h:TRx w rb nb ws fl):w.cell? ⟨rb,1,none⟩=some (.bool fl):=by
 obtain ⟨⟨a,c,hb,_⟩,_⟩:=h
 exact hb.cell 1
theorem TRx.free (h:TRx w rb nb ws fl):w.frozen? ⟨rb,1,none⟩=false:=by
 obtain ⟨⟨a,c,hb,_⟩,_⟩:=h
 exact hb.free 1
theorem TRx.put (h:TRx w rb nb ws fl):TRx (w.setCell ⟨rb,1,none⟩ (.bool true)) rb nb ws true:=by
 obtain ⟨⟨a,c,hb,hc,hl⟩,hn⟩:=h
 refine ⟨⟨a,c,?_,fun i s hi=>?_,hl⟩,hn⟩
 ·have:=hb.put 1 (.bool true)
  simpa using this
 ·obtain ⟨off,e,h⟩:=hc i s hi
  exact ⟨off,e,cell_keptT (S:=fun k=>k=rb) ((Kept.refl _ w).set rfl) h hn⟩
end
theorem xword_nil (w:World) (rb nb:Nat) (fl:Bool) (h:TRx w rb nb [] fl) :
  Calls Tryz.prog 110 #[.pointer (some ⟨rb,0,none⟩)] w fun e w'=>e=.returned (.string ⟨#[]⟩)∧TRx w' rb nb [] true∧Kept (fun k=>k=rb) w w':=by
 obtain ⟨⟨a,c,hb,hc,hl,hm⟩,hn⟩:=h
 have x0:w.cell? ⟨rb,0,none⟩=some (.slice a 0 c):=hb.cell 0
 have x1:w.cell? ⟨rb,1,none⟩=some (.bool fl):=hb.cell 1
 have x2:w.frozen? ⟨rb,1,none⟩=false:=hb.free 1
 have y0:=hb.lt
 have HB:=hid hb
 clear hc hb
 go_enter Tryz.func110,Tryz.ntmps110
 go_wp2
 go_ret
 refine ⟨rfl,⟨⟨a,c,?_,fun i s hi=>by simp at hi,hl,hm⟩,hn⟩,(Kept.refl _ w).set rfl⟩
 have:=HB.out.put 1 (.bool true)
 simpa using this
theorem xword_cons (w:World) (rb nb:Nat) (fl:Bool) (s:ByteArray) (rest:List ByteArray) (h:TRx w rb nb (s :: rest) fl) :
  Calls Tryz.prog 110 #[.pointer (some ⟨rb,0,none⟩)] w fun e w'=>e=.returned (.string s)∧TRx w' rb nb rest fl∧Kept (fun k=>k=rb) w w':=by
 obtain ⟨⟨a,c,hb,hc,hl,hm,-⟩,hn⟩:=h
 obtain ⟨off,rfl,hc0⟩:=hc 0 s rfl
 have hc':∀ i t,(s :: rest)[i]? = some t→w.cell? ⟨nb,off+i,none⟩=some (.string t):=fun i t hi=>by
  obtain ⟨off',e,h⟩:=hc i t hi
  cases e;exact h
 have x0:w.cell? ⟨rb,0,none⟩=some (.slice (some ⟨nb,off,none⟩) (s :: rest).length c):=hb.cell 0
 have x2:w.frozen? ⟨rb,0,none⟩=false:=hb.free 0
 have y0:=hb.lt
 have hc0':w.cell? ⟨nb,off,none⟩=some (.string s):=hc0
 have HC:=hid hc';have HB:=hid hb;have NE:=hid hn
 clear hc hc' hb hc0
 obtain ⟨n,hn'⟩:∃ n,rest.length=n:=⟨_,rfl⟩
 have el:(s :: rest).length=n+1:=by simp [hn']
 rw [el] at x0 hl HB
 have HN:=hid hn'
 clear el hn' hn
 by_cases hc1:c=1
 ·subst hc1
  obtain rfl:n=0:=by omega
  go_enter Tryz.func110,Tryz.ntmps110
  go_wp2
  go_ret
  refine ⟨rfl,⟨⟨some ⟨nb,off,none⟩,0,?_,?_,?_,by omega,.inr ⟨_,_,rfl⟩⟩,NE.out⟩,(Kept.refl _ w).set rfl⟩
  ·have:=HB.out.put 0 (.slice (some ⟨nb,off,none⟩) 0 0)
   rw [HN.out];simpa using this
  ·intro i t hi
   have:rest=[]:=List.eq_nil_of_length_eq_zero HN.out
   subst this
   simp at hi
  ·rw [HN.out];exact Nat.le_refl _
 ·have hc2:¬ (1:Nat)=c:=by omega
  have hc3:1<c:=by omega
  go_enter Tryz.func110,Tryz.ntmps110
  go_wp2
  go_ret
  refine ⟨rfl,⟨⟨some ⟨nb,off+1,none⟩,c - 1,?_,?_,?_,by omega,.inr ⟨_,_,rfl⟩⟩,NE.out⟩,(Kept.refl _ w).set rfl⟩
  ·have:=HB.out.put 0 (.slice (some ⟨nb,off+1,none⟩) n (c - 1))
   rw [HN.out];simpa using this
  ·intro i t hi
   refine ⟨off+1,rfl,?_⟩
   have h1:=HC.out (i+1) t (by simpa using hi)
   rw [show off+1+i=off+(i+1) by omega]
   exact cell_keptT (S:=fun k=>k=rb) ((Kept.refl _ w).set rfl) h1 NE.out
  ·rw [HN.out];omega
theorem xword_any (w:World) (rb nb:Nat) (ws:List ByteArray) (fl:Bool) (h:TRx w rb nb ws fl) :
  Calls Tryz.prog 110 #[.pointer (some ⟨rb,0,none⟩)] w fun e w'=>e=.returned (.string (ws.headD ⟨#[]⟩))∧TRx w' rb nb ws.tail (fl || ws.isEmpty)∧Kept (fun k=>k=rb) w w':=by
 cases ws with
 | nil=>simpa using xword_nil w rb nb fl h
 | cons s rest=>simpa using xword_cons w rb nb fl s rest h
theorem xnumber_any (w:World) (rb nb:Nat) (ws:List ByteArray) (fl:Bool) (h:TRx w rb nb ws fl) (hs:(ws.headD ⟨#[]⟩).size≤1000) (hN:NumW w) (hB:NumB rb) :
  Calls Tryz.prog 111 #[.pointer (some ⟨rb,0,none⟩)] w fun e w'=>e=.returned (.int .i64 ((nuV (ws.headD ⟨#[]⟩)).getD 0))∧TRx w' rb nb ws.tail (fl || ws.isEmpty || (nuV (ws.headD ⟨#[]⟩)).isNone)∧Kept (fun k=>k=rb) w w':=by
 have HW:=hid (xword_any w rb nb ws fl h)
 obtain ⟨s,hsd⟩:∃ s,ws.headD ⟨#[]⟩=s:=⟨_,rfl⟩
 rw [hsd] at HW hs ⊢
 have HN:=hid fun W hW=>xnum_any s hs W hW
 have HNW:=hid hN
 have HNB:=hid hB
 obtain ⟨fl1,hf1⟩:∃ b,(fl || ws.isEmpty)=b:=⟨_,rfl⟩
 obtain ⟨tl,htl⟩:∃ l,ws.tail=l:=⟨_,rfl⟩
 rw [hf1,htl] at HW ⊢
 clear h hN hB hs hsd hf1 htl
 cases hnu:nuV s with
 | none =>
  rw [hnu] at HN
  go_enter Tryz.func111,Tryz.ntmps111
  go_wp2_with (first
   | (go_at_call 110;refine HW.out.mono ?_;rintro e w1 ⟨rfl,hr,hk⟩;have R1:=hid hr;have K1:=hid hk;have N1:=hid (HNW.out.kept hk HNB.out.1 HNB.out.2.1 HNB.out.2.2);clear hr hk)
   | (go_at_call 163;refine (HN.out _ N1.out).mono ?_;rintro e w2 ⟨rfl,hb⟩;have R2:=hid (R1.out.behind hb);have K2:=hid (K1.out.behind hb);have x1:=R2.out.flag;have x2:=R2.out.free;have y2:=R2.out.lt;clear hb))
  go_ret
  exact ⟨rfl,by simpa using R2.out.put,K2.out.set rfl⟩
 | some n =>
  rw [hnu] at HN
  go_enter Tryz.func111,Tryz.ntmps111
  go_wp2_with (first
   | (go_at_call 110;refine HW.out.mono ?_;rintro e w1 ⟨rfl,hr,hk⟩;have R1:=hid hr;have K1:=hid hk;have N1:=hid (HNW.out.kept hk HNB.out.1 HNB.out.2.1 HNB.out.2.2);clear hr hk)
   | (go_at_call 163;refine (HN.out _ N1.out).mono ?_;rintro e w2 ⟨rfl,hb⟩;have R2:=hid (R1.out.behind hb);have K2:=hid (K1.out.behind hb);clear hb))
  go_ret
  exact ⟨rfl,by simpa using R2.out,K2.out⟩
theorem xmark_any (w:World) (rb nb:Nat) (ws:List ByteArray) (fl:Bool) (h:TRx w rb nb ws fl) :
  Calls Tryz.prog 112 #[.pointer (some ⟨rb,0,none⟩)] w fun e w'=>e=.returned (.int .i64 (letV (ws.headD ⟨#[]⟩)))∧TRx w' rb nb ws.tail (fl || ws.isEmpty || decide (letV (ws.headD ⟨#[]⟩)=0))∧Kept (fun k=>k=rb) w w':=by
 have HW:=hid (xword_any w rb nb ws fl h)
 obtain ⟨s,hsd⟩:∃ s,ws.headD ⟨#[]⟩=s:=⟨_,rfl⟩
 rw [hsd] at HW ⊢
 have HN:=hid fun W=>xcmark s W
 obtain ⟨fl1,hf1⟩:∃ b,(fl || ws.isEmpty)=b:=⟨_,rfl⟩
 obtain ⟨tl,htl⟩:∃ l,ws.tail=l:=⟨_,rfl⟩
 obtain ⟨m,hm⟩:∃ m,letV s=m:=⟨_,rfl⟩
 rw [hf1,htl] at HW ⊢
 rw [hm] at HN ⊢
 clear h hsd hf1 htl hm
 by_cases hm:m=0
 ·subst hm
  go_enter Tryz.func112,Tryz.ntmps112
  go_wp2_with (first
   | (go_at_call 110;refine HW.out.mono ?_;rintro e w1 ⟨rfl,hr,hk⟩;have R1:=hid hr;have K1:=hid hk;clear hr hk)
   | (go_at_call 164;refine (HN.out _).mono ?_;rintro e w2 ⟨rfl,hb⟩;have R2:=hid (R1.out.behind hb);have K2:=hid (K1.out.behind hb);have x1:=R2.out.flag;have x2:=R2.out.free;have y2:=R2.out.lt;clear hb))
  go_ret
  exact ⟨rfl,by simpa using R2.out.put,K2.out.set rfl⟩
 ·have m0:((m:Int) == 0)=false:=by simpa using hm
  go_enter Tryz.func112,Tryz.ntmps112
  go_wp2_with (first
   | (go_at_call 110;refine HW.out.mono ?_;rintro e w1 ⟨rfl,hr,hk⟩;have R1:=hid hr;have K1:=hid hk;clear hr hk)
   | (go_at_call 164;refine (HN.out _).mono ?_;rintro e w2 ⟨rfl,hb⟩;have R2:=hid (R1.out.behind hb);have K2:=hid (K1.out.behind hb);clear hb))
  go_ret
  exact ⟨rfl,by simpa [hm] using R2.out,K2.out⟩
end Go.Proofs.YtancajcelmhnkaaGreatDoor
