/- What may turn: only some blocks,and what is new. -/
import Derived.Test.YtancajcelmhnkaaGreatDoorGh
import Derived.Lib.SmallJoins
set_option maxRecDepth 100000
set_option maxHeartbeats 2000000
namespace Go.Proofs.YtancajcelmhnkaaGreatDoor
open Go.RowKit
set_option linter.unusedVariables false
structure Kept (S:Nat→Prop) (w w':World):Prop where
 os:w'.os=w.os
 tape:w'.tape=w.tape
 output:w'.output=w.output
 size:w.heap.size≤w'.heap.size
 block:∀ k,k<w.heap.size→¬ S k→w'.heap[k]? = w.heap[k]?
section
variable {S T:Nat→Prop} {w w1 w2:World}
theorem Kept.refl (S:Nat→Prop) (w:World):Kept S w w:=⟨rfl,rfl,rfl,Nat.le_refl _,fun _ _ _=>rfl⟩
theorem Kept.trans (h:Kept S w w1) (k:Kept T w1 w2) (hT:∀ i,i<w.heap.size→T i→S i):Kept S w w2 :=
 ⟨k.os.trans h.os,k.tape.trans h.tape,k.output.trans h.output,Nat.le_trans h.size k.size,fun i hi hn=>(k.block i (Nat.lt_of_lt_of_le hi h.size) fun c=>hn (hT i hi c)).trans (h.block i hi hn)⟩
theorem Kept.mono (h:Kept S w w1) (hT:∀ i,i<w.heap.size→S i→T i):Kept T w w1:=⟨h.os,h.tape,h.output,h.size,fun i hi hn=>h.block i hi fun c=>hn (hT i hi c)⟩
theorem Kept.below (h:Below w.heap.size w w1):Kept S w w1:=⟨h.os,h.tape,h.output,h.size,fun i hi _=>h.block i hi⟩
theorem Kept.toBelow {B:Nat} (h:Kept S w w1) (hB:B≤w.heap.size) (hS:∀ i,i<B→¬ S i):Below B w w1:=⟨h.os,h.tape,h.output,h.size,fun i hi=>h.block i (by omega) (hS i hi)⟩
theorem Kept.blk {g:Nat} {t:TypeId} {cs:Array Value} (h:Kept S w w1) (hb:Blk w g t cs) (hn:¬ S g):Blk w1 g t cs:=(h.block g hb.lt hn).trans hb
theorem Kept.own {base n k:Nat} {e:TypeId} {v:Value} {xs:List Value} (h:Kept S w w1) (ho:w.ownsRow base e k v n xs) (hn:∀ g,v.ownBlock=some g→¬ S g):w1.ownsRow base e k v n xs:=by
 rcases ho.2 with h0 | ⟨g,cap,cur,hv,hb,hg,r⟩
 ·exact ⟨ho.1,.inl h0⟩
 ·exact ⟨ho.1,.inr ⟨g,cap,cur,hv,hb,(h.block g (lt_of_block hg) (hn g (by rw [hv];rfl))).trans hg,r⟩⟩
theorem Kept.vw {a:Option Addr} {xs:List Value} (h:Kept S w w1) (hv:Vw w a xs) (hn:∀ b off,a=some ⟨b,off,none⟩→¬ S b):Vw w1 a xs:=fun i v hi=>by
 obtain ⟨b,off,e,hc⟩:=hv i v hi
 exact ⟨b,off,e,(World.cell?_of_block (w:=w) (a:=⟨b,off+i,none⟩) (h.block b (World.block_lt_of_cell? w _ hc) (hn b off e))).trans hc⟩
theorem Kept.set {g o:Nat} {v:Value} (h:Kept S w w1) (hg:S g):Kept S w (w1.setCell ⟨g,o,none⟩ v) :=
 ⟨h.os,h.tape,h.output,by simpa [World.setCell] using h.size,fun i hi hn=>(Below.heap_setCell w1 ⟨g,o,none⟩ v i (by intro c;exact hn (c ▸ hg))).trans (h.block i hi hn)⟩
theorem Kept.drewN (h:Kept S w w1) (n:Nat):Kept S w (w1.drewN n):=⟨h.os,h.tape,h.output,h.size,h.block⟩
theorem Kept.drew (h:Kept S w w1):Kept S w w1.drew:=⟨h.os,h.tape,h.output,h.size,h.block⟩
theorem Kept.alloc (h:Kept S w w1) (o:Obj):Kept S w (w1.alloc o):=⟨h.os,h.tape,h.output,by simp;have:=h.size;omega,fun i hi hn=>(Below.heap_alloc w1 o i (Nat.lt_of_lt_of_le hi h.size)).trans (h.block i hi hn)⟩
theorem Kept.behind (h:Kept S w w1) (k:Below w1.heap.size w1 w2):Kept S w w2:=h.trans (Kept.below (S:=S) k) fun _ _ c=>c
end
abbrev strCells (l:List ByteArray):List Value:=l.map Value.string
theorem oneC_str (l:List ByteArray):OneC (strCells l):=fun u hu=>by
 obtain ⟨x,_,rfl⟩:=List.mem_map.1 hu;rfl
theorem infoStr:(Tryz.prog.info? 9).map (fun i=>(i.zero,i.size,i.bytes))=some (some (.string ⟨#[]⟩),1,16):=by kernel_rfl
theorem elStr:ElT Tryz.prog 75 9 1 16:=.mk' Tryz.underlying75 infoStr rfl (by decide) (by decide)
def DecAt (w:World) (x:Int) (s:ByteArray):Prop:=∀ W:World,Below w.heap.size w W→Calls Tryz.prog 162 #[.int .i64 x] W fun e w'=>e=.returned (.string s)∧Below W.heap.size W w'
theorem DecAt.below {w w':World} {x:Int} {s:ByteArray} (h:DecAt w x s) (hb:Below w.heap.size w w'):DecAt w' x s:=fun W hW=>h W (btr hb hW)
theorem dec_small (w:World) (i:Nat) (hi:i<100):DecAt w i ⟨(Lib.decDigits i).toArray⟩:=fun W hW=>by
 have hcon:=fun W'=>Tryz.strconv_Itoa_small i hi W'
 generalize (Lib.decDigits i).toArray=s at hcon ⊢
 have H:=hid hcon
 clear hcon
 go_enter Tryz.func162,Tryz.ntmps162
 go_wp2_with (go_at_call 192;refine (H.out _).mono ?_;rintro e w' ⟨rfl,rfl⟩)
 go_ret
 exact ⟨rfl,Below.refl _ _⟩
end Go.Proofs.YtancajcelmhnkaaGreatDoor
namespace Go.Proofs.YtancajcelmhnkaaGreatDoor
open Go.RowKit Go.Sort Go.Shelf
set_option linter.unusedVariables false
set_option linter.unusedSimpArgs false
theorem cell_keptT {S:Nat→Prop} {w w':World} {b o:Nat} {v:Value} (hk:Kept S w w') (h:w.cell? ⟨b,o,none⟩=some v) (hn:¬ S b):w'.cell? ⟨b,o,none⟩=some v :=
 (World.cell?_of_block (w:=w) (a:=⟨b,o,none⟩) (hk.block b (World.block_lt_of_cell? w _ h) hn)).trans h
structure TRd (w:World) (rb nb:Nat) (ws:List ByteArray):Prop where
 ex:∃ off c:Nat,Blk w rb 124 #[.slice (some ⟨nb,off,none⟩) ws.length c,.bool false]∧(∀ i s,ws[i]? = some s→w.cell? ⟨nb,off+i,none⟩=some (.string s))∧ws.length≤c∧c≤1000000000
 ne:nb ≠ rb
theorem TRd.lt {w:World} {rb nb:Nat} {ws:List ByteArray} (h:TRd w rb nb ws):rb<w.heap.size:=by
 obtain ⟨⟨_,_,h,_⟩,_⟩:=h;exact h.lt
theorem TRd.kept {S:Nat→Prop} {w w':World} {rb nb:Nat} {ws:List ByteArray} (h:TRd w rb nb ws) (hk:Kept S w w') (h1:¬ S rb) (h2:¬ S nb):TRd w' rb nb ws:=by
 obtain ⟨⟨off,c,hb,hc,hl⟩,hn⟩:=h
 exact ⟨⟨off,c,hk.blk hb h1,fun i s hi=>cell_keptT hk (hc i s hi) h2,hl⟩,hn⟩
theorem TRd.behind {w w':World} {rb nb:Nat} {ws:List ByteArray} (h:TRd w rb nb ws) (hb:Below w.heap.size w w'):TRd w' rb nb ws:=h.kept (S:=fun _=>False) (Kept.below hb) (fun c=>c) (fun c=>c)
theorem tword_any (w:World) (rb nb:Nat) (s:ByteArray) (rest:List ByteArray) (h:TRd w rb nb (s :: rest)) :
  Calls Tryz.prog 110 #[.pointer (some ⟨rb,0,none⟩)] w fun e w'=>e=.returned (.string s)∧TRd w' rb nb rest∧Kept (fun k=>k=rb) w w':=by
 obtain ⟨off,c,hb,hc,hl,hm⟩:=h.ex
 have x0:w.cell? ⟨rb,0,none⟩=some (.slice (some ⟨nb,off,none⟩) (s :: rest).length c):=hb.cell 0
 have x2:w.frozen? ⟨rb,0,none⟩=false:=hb.free 0
 have y0:=hb.lt
 have hc0:w.cell? ⟨nb,off,none⟩=some (.string s):=hc 0 s rfl
 have HC:=hid hc;have HB:=hid hb;have NE:=hid h.ne
 clear h hc hb
 obtain ⟨n,hn⟩:∃ n,rest.length=n:=⟨_,rfl⟩
 have el:(s :: rest).length=n+1:=by simp [hn]
 rw [el] at x0 hl HB
 have HN:=hid hn
 clear el hn
 by_cases hc1:c=1
 ·subst hc1
  obtain rfl:n=0:=by omega
  go_enter Tryz.func110,Tryz.ntmps110
  go_wp2
  go_ret
  refine ⟨rfl,⟨⟨off,0,?_,?_,?_,by omega⟩,NE.out⟩,(Kept.refl _ w).set rfl⟩
  ·have:=HB.out.put 0 (.slice (some ⟨nb,off,none⟩) 0 0)
   rw [HN.out];simpa using this
  ·intro i t hi
   have:rest=[]:=List.eq_nil_of_length_eq_zero HN.out
   subst this
   simp at hi
  ·rw [HN.out];exact Nat.le_refl _
 ·have hc2:¬ (1:Nat)=c:=by omega
  have hc3:1<c:=by omega
  go_enter Tryz.func110,Tryz.ntmps110
  go_wp2
  go_ret
  refine ⟨rfl,⟨⟨off+1,c - 1,?_,?_,?_,by omega⟩,NE.out⟩,(Kept.refl _ w).set rfl⟩
  ·have:=HB.out.put 0 (.slice (some ⟨nb,off+1,none⟩) n (c - 1))
   rw [HN.out];simpa using this
  ·intro i t hi
   have h1:=HC.out (i+1) t (by simpa using hi)
   rw [show off+1+i=off+(i+1) by omega]
   exact cell_keptT (S:=fun k=>k=rb) ((Kept.refl _ w).set rfl) h1 NE.out
  ·rw [HN.out];omega
theorem atoi_dig:∀ i:Fin 100,Lib.atoi (Lib.decDigits i.val)=some (i.val:Int)∧(Lib.decDigits i.val).length≤18:=by decide +kernel
theorem tnum_any (n:Int) (h0:0≤n) (h1:n<100) (W:World) :
  Calls Tryz.prog 163 #[.string (numWord n),.int .i64 (-1125899906842624),.int .i64 1125899906842624] W fun e w'=>e=.returned (.tuple #[.int .i64 n,.bool true])∧Below W.heap.size W w':=by
 obtain ⟨i,rfl⟩:=Int.eq_ofNat_of_zero_le h0
 have hi:i<100:=by omega
 obtain ⟨h2,h3⟩:=atoi_dig ⟨i,hi⟩
 have hs:(numWord i).data.toList=Lib.decDigits i:=by simp [numWord]
 have hA:=fun W'=>Tryz.strconv_Atoi (numWord i) i (by show (numWord i).data.size≤18;rw [← Array.length_toList,hs];exact h3) (by rw [hs];exact h2) W'
 have hI:=fun W'=>Tryz.strconv_Itoa_small i hi W'
 rw [show (⟨(Lib.decDigits i).toArray⟩:ByteArray)=numWord i from rfl] at hI
 generalize numWord i=s at hA hI ⊢
 have HA:=hid hA;have HI:=hid hI
 clear hA hI hs h2 h3
 have i0:¬ (i:Int) < -1125899906842624:=by omega
 have i1:¬ (1125899906842624:Int)<(i:Int):=by omega
 have i2:¬ (i:Int) > 1125899906842624:=by omega
 go_enter Tryz.func163,Tryz.ntmps163
 go_wp2_with (first
  | (go_at_call 193;refine (HA.out _).mono ?_;rintro e w1 ⟨rfl,t,rfl⟩)
  | (go_at_call 192;refine (HI.out _).mono ?_;rintro e w2 ⟨rfl,rfl⟩))
 go_ret2
 exact ⟨rfl,Go.Joins.below_bytesWorld _ W _ t (Nat.le_refl _)⟩
theorem tnumber_any (w:World) (rb nb:Nat) (n:Int) (rest:List ByteArray) (h:TRd w rb nb (numWord n :: rest)) (h0:0≤n) (h1:n<100) :
  Calls Tryz.prog 111 #[.pointer (some ⟨rb,0,none⟩)] w fun e w'=>e=.returned (.int .i64 n)∧TRd w' rb nb rest∧Kept (fun k=>k=rb) w w':=by
 have HW:=hid (tword_any w rb nb _ rest h)
 have HN:=hid (tnum_any n h0 h1)
 clear h
 go_enter Tryz.func111,Tryz.ntmps111
 go_wp2_with (first
  | (go_at_call 110;refine HW.out.mono ?_;rintro e w1 ⟨rfl,hr,hk⟩;have R1:=hid hr;have K1:=hid hk;clear hr hk)
  | (go_at_call 163;refine (HN.out _).mono ?_;rintro e w2 ⟨rfl,hb⟩;have R2:=hid (R1.out.behind hb);have K2:=hid (K1.out.behind hb);clear hb))
 go_ret
 exact ⟨rfl,R2.out,K2.out⟩
theorem oneMark_cases {m:Int} (h:oneMark m=true):m=1∨m=2∨m=4∨m=8∨m=16:=of_decide_eq_true h
theorem cmark_any (m:Int) (hm:oneMark m=true) (W:World) :
  Calls Tryz.prog 164 #[.string (markWord m)] W fun e w'=>e=.returned (.int .i64 m)∧Below W.heap.size W w':=by
 have hc:∀ c:UInt8,Calls Tryz.prog 194 #[.string ⟨#[112,103,99,102,108]⟩,.string ⟨#[c]⟩] W fun e w'=>e=.returned (.bool (decide (0≤Lib.indexByte [112,103,99,102,108] c)))∧w'=W:=fun c=>Tryz.strings_Contains_one _ c W
 have hi:∀ c:UInt8,Calls Tryz.prog 195 #[.string ⟨#[112,103,99,102,108]⟩,.string ⟨#[c]⟩] W fun e w'=>e=.returned (.int .i64 (Lib.indexByte [112,103,99,102,108] c))∧w'=W:=fun c=>Tryz.strings_Index_one _ c W
 have HC:=hid hc;have HI:=hid hi
 have q1:Lib.indexByte [112,103,99,102,108] 112=0:=by decide +kernel
 have q2:Lib.indexByte [112,103,99,102,108] 103=1:=by decide +kernel
 have q3:Lib.indexByte [112,103,99,102,108] 99=2:=by decide +kernel
 have q4:Lib.indexByte [112,103,99,102,108] 102=3:=by decide +kernel
 have q5:Lib.indexByte [112,103,99,102,108] 108=4:=by decide +kernel
 have Q1:=hid q1;have Q2:=hid q2;have Q3:=hid q3;have Q4:=hid q4;have Q5:=hid q5
 clear hc hi q1 q2 q3 q4 q5
 rcases oneMark_cases hm with rfl | rfl | rfl | rfl | rfl
 ·show Calls Tryz.prog _ #[.string ⟨#[112]⟩] W _
  go_enter Tryz.func164,Tryz.ntmps164
  go_wp2_with (first
   | (go_at_call 194;refine (HC.out 112).mono ?_;rw [Q1.out];rintro e w1 ⟨rfl,rfl⟩)
   | (go_at_call 195;refine (HI.out 112).mono ?_;rw [Q1.out];rintro e w2 ⟨rfl,rfl⟩))
  go_ret
  exact ⟨rfl,Below.refl _ _⟩
 ·show Calls Tryz.prog _ #[.string ⟨#[103]⟩] W _
  go_enter Tryz.func164,Tryz.ntmps164
  go_wp2_with (first
   | (go_at_call 194;refine (HC.out 103).mono ?_;rw [Q2.out];rintro e w1 ⟨rfl,rfl⟩)
   | (go_at_call 195;refine (HI.out 103).mono ?_;rw [Q2.out];rintro e w2 ⟨rfl,rfl⟩))
  go_ret
  exact ⟨rfl,Below.refl _ _⟩
 ·show Calls Tryz.prog _ #[.string ⟨#[99]⟩] W _
  go_enter Tryz.func164,Tryz.ntmps164
  go_wp2_with (first
   | (go_at_call 194;refine (HC.out 99).mono ?_;rw [Q3.out];rintro e w1 ⟨rfl,rfl⟩)
   | (go_at_call 195;refine (HI.out 99).mono ?_;rw [Q3.out];rintro e w2 ⟨rfl,rfl⟩))
  go_ret
  exact ⟨rfl,Below.refl _ _⟩
 ·show Calls Tryz.prog _ #[.string ⟨#[102]⟩] W _
  go_enter Tryz.func164,Tryz.ntmps164
  go_wp2_with (first
   | (go_at_call 194;refine (HC.out 102).mono ?_;rw [Q4.out];rintro e w1 ⟨rfl,rfl⟩)
   | (go_at_call 195;refine (HI.out 102).mono ?_;rw [Q4.out];rintro e w2 ⟨rfl,rfl⟩))
  go_ret
  exact ⟨rfl,Below.refl _ _⟩
 ·show Calls Tryz.prog _ #[.string ⟨#[108]⟩] W _
  go_enter Tryz.func164,Tryz.ntmps164
  go_wp2_with (first
   | (go_at_call 194;refine (HC.out 108).mono ?_;rw [Q5.out];rintro e w1 ⟨rfl,rfl⟩)
   | (go_at_call 195;refine (HI.out 108).mono ?_;rw [Q5.out];rintro e w2 ⟨rfl,rfl⟩))
  go_ret
  exact ⟨rfl,Below.refl _ _⟩
theorem tmark_any (w:World) (rb nb:Nat) (m:Int) (rest:List ByteArray) (h:TRd w rb nb (markWord m :: rest)) (hm:oneMark m=true) :
  Calls Tryz.prog 112 #[.pointer (some ⟨rb,0,none⟩)] w fun e w'=>e=.returned (.int .i64 m)∧TRd w' rb nb rest∧Kept (fun k=>k=rb) w w':=by
 have HW:=hid (tword_any w rb nb _ rest h)
 have HN:=hid (cmark_any m hm)
 have m0:((m:Int) == 0)=false:=by rcases oneMark_cases hm with rfl | rfl | rfl | rfl | rfl <;> rfl
 clear h hm
 go_enter Tryz.func112,Tryz.ntmps112
 go_wp2_with (first
  | (go_at_call 110;refine HW.out.mono ?_;rintro e w1 ⟨rfl,hr,hk⟩;have R1:=hid hr;have K1:=hid hk;clear hr hk)
  | (go_at_call 164;refine (HN.out _).mono ?_;rintro e w2 ⟨rfl,hb⟩;have R2:=hid (R1.out.behind hb);have K2:=hid (K1.out.behind hb);clear hb))
 go_ret
 exact ⟨rfl,R2.out,K2.out⟩
end Go.Proofs.YtancajcelmhnkaaGreatDoor
