/- The letters of marks,and decimal texts. -/
import Derived.Test.YtancajcelmhnkaaGreatDoorGz
import Derived.Test.YtancajcelmhnkaaGreatDoorEval
set_option maxRecDepth 100000
set_option maxHeartbeats 8000000
namespace Go.Proofs.YtancajcelmhnkaaGreatDoor
open Go.RowKit Go.Sort Go.Shelf
set_option linter.unusedVariables false
set_option linter.unusedSimpArgs false
theorem pdec_any (n:Int) (h0:0≤n) (h1:n<100) (w W:World) (hW:Below w.heap.size w W):Calls Tryz.prog 162 #[.int .i64 n] W fun e w'=>e=.returned (.string (numWord n))∧Below W.heap.size W w':=by
 obtain ⟨i,rfl⟩:=Int.eq_ofNat_of_zero_le h0
 exact dec_small w i (by omega) W hW
theorem cmpor_any (s:ByteArray) (g:Nat) (W:World) (hs:s.toList.isEmpty=false) (c0:W.cell? ⟨g,0,none⟩=some (.string s)) :
  Calls Tryz.prog 208 #[.slice (some ⟨g,0,none⟩) 2 2] W fun e w'=>e=.returned (.string s)∧w'=W:=by
 go_enter Tryz.func208,Tryz.ntmps208
 go_wp2
 go_rounds 1
 go_ret
 exact ⟨rfl,rfl⟩
theorem letter_0 (W:World):Calls Tryz.prog 191 #[.int .i64 1] W fun e w'=>e=.returned (.string ⟨#[112]⟩)∧Below W.heap.size W w':=by
 have HO:=hid fun g W' c=>cmpor_any ⟨#[112]⟩ g W' (by first | decide +kernel | simp [ByteArray.toList]) c
 go_enter Tryz.func191,Tryz.ntmps191
 go_wp2
 go_loopw [3,4,5] (fun v _ _ wr=>∃ p:Nat,p≤5∧v=.string (if p≤0 then ⟨#[]⟩ else ⟨#[112]⟩)∧wr.heap[W.heap.size]? = some (.stringIter ⟨#[112,103,99,102,108]⟩ p)∧Below W.heap.size W wr) (fun _ _ _ wr=>5 - wr.iterPos W.heap.size)
 case atStart =>
  refine ⟨0,by omega,rfl,?_,bal (Below.refl _ _) (.stringIter ⟨#[112,103,99,102,108]⟩ 0)⟩
  have:=World.iter_heap W ⟨#[112,103,99,102,108]⟩ 0
  simpa using this
 case round =>
  obtain ⟨p,hp,rfl,hit,hb⟩:=hrel
  have HIT:=hid hit
  have HB:=hid hb
  have hsz:W.heap.size<wr.heap.size:=(Array.getElem?_eq_some_iff.1 hit).1
  have hc:p=0∨p=1∨p=2∨p=3∨p=4∨p=5:=by omega
  clear hit hb hp
  rcases hc with rfl | rfl | rfl | rfl | rfl | rfl
  ·have hnx:∀ ty,(Instr.next (.pointer (some ⟨W.heap.size,0,none⟩)) true ty).run Tryz.prog wr=.ok (.tuple #[.bool true,.int .i64 0,.int .i32 112]) (wr.iterAt W.heap.size ⟨#[112,103,99,102,108]⟩ 1):=fun ty=>Lib.run_next_ascii_at wr W.heap.size ⟨#[112,103,99,102,108]⟩ 0 ty HIT.out (by decide) (by decide)
   simp only [show (0:Nat)≤0↔True by decide,if_true,if_false]
   go_wp2
   go_roundw
   case rel=>exact ⟨1,by omega,by first | rfl | decide,Lib.iterAt_heap wr W.heap.size _ 0 1 HIT.out,Lib.below_iterAt HB.out (by omega) _ _⟩
   case measure=>simp only [World.iterPos,Lib.iterAt_heap wr W.heap.size _ 0 1 HIT.out,HIT.out];omega
  ·have hnx:∀ ty,(Instr.next (.pointer (some ⟨W.heap.size,0,none⟩)) true ty).run Tryz.prog wr=.ok (.tuple #[.bool true,.int .i64 1,.int .i32 103]) (wr.iterAt W.heap.size ⟨#[112,103,99,102,108]⟩ 2):=fun ty=>Lib.run_next_ascii_at wr W.heap.size ⟨#[112,103,99,102,108]⟩ 1 ty HIT.out (by decide) (by decide)
   simp only [show (1:Nat)≤0↔False by decide,if_true,if_false]
   go_wp2
   go_roundw
   case rel=>exact ⟨2,by omega,by first | rfl | decide,Lib.iterAt_heap wr W.heap.size _ 1 2 HIT.out,Lib.below_iterAt HB.out (by omega) _ _⟩
   case measure=>simp only [World.iterPos,Lib.iterAt_heap wr W.heap.size _ 1 2 HIT.out,HIT.out];omega
  ·have hnx:∀ ty,(Instr.next (.pointer (some ⟨W.heap.size,0,none⟩)) true ty).run Tryz.prog wr=.ok (.tuple #[.bool true,.int .i64 2,.int .i32 99]) (wr.iterAt W.heap.size ⟨#[112,103,99,102,108]⟩ 3):=fun ty=>Lib.run_next_ascii_at wr W.heap.size ⟨#[112,103,99,102,108]⟩ 2 ty HIT.out (by decide) (by decide)
   simp only [show (2:Nat)≤0↔False by decide,if_true,if_false]
   go_wp2
   go_roundw
   case rel=>exact ⟨3,by omega,by first | rfl | decide,Lib.iterAt_heap wr W.heap.size _ 2 3 HIT.out,Lib.below_iterAt HB.out (by omega) _ _⟩
   case measure=>simp only [World.iterPos,Lib.iterAt_heap wr W.heap.size _ 2 3 HIT.out,HIT.out];omega
  ·have hnx:∀ ty,(Instr.next (.pointer (some ⟨W.heap.size,0,none⟩)) true ty).run Tryz.prog wr=.ok (.tuple #[.bool true,.int .i64 3,.int .i32 102]) (wr.iterAt W.heap.size ⟨#[112,103,99,102,108]⟩ 4):=fun ty=>Lib.run_next_ascii_at wr W.heap.size ⟨#[112,103,99,102,108]⟩ 3 ty HIT.out (by decide) (by decide)
   simp only [show (3:Nat)≤0↔False by decide,if_true,if_false]
   go_wp2
   go_roundw
   case rel=>exact ⟨4,by omega,by first | rfl | decide,Lib.iterAt_heap wr W.heap.size _ 3 4 HIT.out,Lib.below_iterAt HB.out (by omega) _ _⟩
   case measure=>simp only [World.iterPos,Lib.iterAt_heap wr W.heap.size _ 3 4 HIT.out,HIT.out];omega
  ·have hnx:∀ ty,(Instr.next (.pointer (some ⟨W.heap.size,0,none⟩)) true ty).run Tryz.prog wr=.ok (.tuple #[.bool true,.int .i64 4,.int .i32 108]) (wr.iterAt W.heap.size ⟨#[112,103,99,102,108]⟩ 5):=fun ty=>Lib.run_next_ascii_at wr W.heap.size ⟨#[112,103,99,102,108]⟩ 4 ty HIT.out (by decide) (by decide)
   simp only [show (4:Nat)≤0↔False by decide,if_true,if_false]
   go_wp2
   go_roundw
   case rel=>exact ⟨5,by omega,by first | rfl | decide,Lib.iterAt_heap wr W.heap.size _ 4 5 HIT.out,Lib.below_iterAt HB.out (by omega) _ _⟩
   case measure=>simp only [World.iterPos,Lib.iterAt_heap wr W.heap.size _ 4 5 HIT.out,HIT.out];omega
  ·have hnx:∀ ty,(Instr.next (.pointer (some ⟨W.heap.size,0,none⟩)) true ty).run Tryz.prog wr=.ok (.tuple #[.bool false]) wr:=fun ty=>Lib.run_next_end_at wr W.heap.size ⟨#[112,103,99,102,108]⟩ 5 ty HIT.out (by decide)
   simp only [show (5:Nat)≤0↔False by decide,if_false]
   go_wp2_with (go_at_call 208;refine (HO.out _ _ (by simp [go_sem])).mono ?_;rintro e w2 ⟨rfl,rfl⟩)
   go_ret
   exact ⟨rfl,btr HB.out Bw.out⟩
theorem letter_1 (W:World):Calls Tryz.prog 191 #[.int .i64 2] W fun e w'=>e=.returned (.string ⟨#[103]⟩)∧Below W.heap.size W w':=by
 have HO:=hid fun g W' c=>cmpor_any ⟨#[103]⟩ g W' (by first | decide +kernel | simp [ByteArray.toList]) c
 go_enter Tryz.func191,Tryz.ntmps191
 go_wp2
 go_loopw [3,4,5] (fun v _ _ wr=>∃ p:Nat,p≤5∧v=.string (if p≤1 then ⟨#[]⟩ else ⟨#[103]⟩)∧wr.heap[W.heap.size]? = some (.stringIter ⟨#[112,103,99,102,108]⟩ p)∧Below W.heap.size W wr) (fun _ _ _ wr=>5 - wr.iterPos W.heap.size)
 case atStart =>
  refine ⟨0,by omega,rfl,?_,bal (Below.refl _ _) (.stringIter ⟨#[112,103,99,102,108]⟩ 0)⟩
  have:=World.iter_heap W ⟨#[112,103,99,102,108]⟩ 0
  simpa using this
 case round =>
  obtain ⟨p,hp,rfl,hit,hb⟩:=hrel
  have HIT:=hid hit
  have HB:=hid hb
  have hsz:W.heap.size<wr.heap.size:=(Array.getElem?_eq_some_iff.1 hit).1
  have hc:p=0∨p=1∨p=2∨p=3∨p=4∨p=5:=by omega
  clear hit hb hp
  rcases hc with rfl | rfl | rfl | rfl | rfl | rfl
  ·have hnx:∀ ty,(Instr.next (.pointer (some ⟨W.heap.size,0,none⟩)) true ty).run Tryz.prog wr=.ok (.tuple #[.bool true,.int .i64 0,.int .i32 112]) (wr.iterAt W.heap.size ⟨#[112,103,99,102,108]⟩ 1):=fun ty=>Lib.run_next_ascii_at wr W.heap.size ⟨#[112,103,99,102,108]⟩ 0 ty HIT.out (by decide) (by decide)
   simp only [show (0:Nat)≤1↔True by decide,if_true,if_false]
   go_wp2
   go_roundw
   case rel=>exact ⟨1,by omega,by first | rfl | decide,Lib.iterAt_heap wr W.heap.size _ 0 1 HIT.out,Lib.below_iterAt HB.out (by omega) _ _⟩
   case measure=>simp only [World.iterPos,Lib.iterAt_heap wr W.heap.size _ 0 1 HIT.out,HIT.out];omega
  ·have hnx:∀ ty,(Instr.next (.pointer (some ⟨W.heap.size,0,none⟩)) true ty).run Tryz.prog wr=.ok (.tuple #[.bool true,.int .i64 1,.int .i32 103]) (wr.iterAt W.heap.size ⟨#[112,103,99,102,108]⟩ 2):=fun ty=>Lib.run_next_ascii_at wr W.heap.size ⟨#[112,103,99,102,108]⟩ 1 ty HIT.out (by decide) (by decide)
   simp only [show (1:Nat)≤1↔True by decide,if_true,if_false]
   go_wp2
   go_roundw
   case rel=>exact ⟨2,by omega,by first | rfl | decide,Lib.iterAt_heap wr W.heap.size _ 1 2 HIT.out,Lib.below_iterAt HB.out (by omega) _ _⟩
   case measure=>simp only [World.iterPos,Lib.iterAt_heap wr W.heap.size _ 1 2 HIT.out,HIT.out];omega
  ·have hnx:∀ ty,(Instr.next (.pointer (some ⟨W.heap.size,0,none⟩)) true ty).run Tryz.prog wr=.ok (.tuple #[.bool true,.int .i64 2,.int .i32 99]) (wr.iterAt W.heap.size ⟨#[112,103,99,102,108]⟩ 3):=fun ty=>Lib.run_next_ascii_at wr W.heap.size ⟨#[112,103,99,102,108]⟩ 2 ty HIT.out (by decide) (by decide)
   simp only [show (2:Nat)≤1↔False by decide,if_true,if_false]
   go_wp2
   go_roundw
   case rel=>exact ⟨3,by omega,by first | rfl | decide,Lib.iterAt_heap wr W.heap.size _ 2 3 HIT.out,Lib.below_iterAt HB.out (by omega) _ _⟩
   case measure=>simp only [World.iterPos,Lib.iterAt_heap wr W.heap.size _ 2 3 HIT.out,HIT.out];omega
  ·have hnx:∀ ty,(Instr.next (.pointer (some ⟨W.heap.size,0,none⟩)) true ty).run Tryz.prog wr=.ok (.tuple #[.bool true,.int .i64 3,.int .i32 102]) (wr.iterAt W.heap.size ⟨#[112,103,99,102,108]⟩ 4):=fun ty=>Lib.run_next_ascii_at wr W.heap.size ⟨#[112,103,99,102,108]⟩ 3 ty HIT.out (by decide) (by decide)
   simp only [show (3:Nat)≤1↔False by decide,if_true,if_false]
   go_wp2
   go_roundw
   case rel=>exact ⟨4,by omega,by first | rfl | decide,Lib.iterAt_heap wr W.heap.size _ 3 4 HIT.out,Lib.below_iterAt HB.out (by omega) _ _⟩
   case measure=>simp only [World.iterPos,Lib.iterAt_heap wr W.heap.size _ 3 4 HIT.out,HIT.out];omega
  ·have hnx:∀ ty,(Instr.next (.pointer (some ⟨W.heap.size,0,none⟩)) true ty).run Tryz.prog wr=.ok (.tuple #[.bool true,.int .i64 4,.int .i32 108]) (wr.iterAt W.heap.size ⟨#[112,103,99,102,108]⟩ 5):=fun ty=>Lib.run_next_ascii_at wr W.heap.size ⟨#[112,103,99,102,108]⟩ 4 ty HIT.out (by decide) (by decide)
   simp only [show (4:Nat)≤1↔False by decide,if_true,if_false]
   go_wp2
   go_roundw
   case rel=>exact ⟨5,by omega,by first | rfl | decide,Lib.iterAt_heap wr W.heap.size _ 4 5 HIT.out,Lib.below_iterAt HB.out (by omega) _ _⟩
   case measure=>simp only [World.iterPos,Lib.iterAt_heap wr W.heap.size _ 4 5 HIT.out,HIT.out];omega
  ·have hnx:∀ ty,(Instr.next (.pointer (some ⟨W.heap.size,0,none⟩)) true ty).run Tryz.prog wr=.ok (.tuple #[.bool false]) wr:=fun ty=>Lib.run_next_end_at wr W.heap.size ⟨#[112,103,99,102,108]⟩ 5 ty HIT.out (by decide)
   simp only [show (5:Nat)≤1↔False by decide,if_false]
   go_wp2_with (go_at_call 208;refine (HO.out _ _ (by simp [go_sem])).mono ?_;rintro e w2 ⟨rfl,rfl⟩)
   go_ret
   exact ⟨rfl,btr HB.out Bw.out⟩
theorem letter_2 (W:World):Calls Tryz.prog 191 #[.int .i64 4] W fun e w'=>e=.returned (.string ⟨#[99]⟩)∧Below W.heap.size W w':=by
 have HO:=hid fun g W' c=>cmpor_any ⟨#[99]⟩ g W' (by first | decide +kernel | simp [ByteArray.toList]) c
 go_enter Tryz.func191,Tryz.ntmps191
 go_wp2
 go_loopw [3,4,5] (fun v _ _ wr=>∃ p:Nat,p≤5∧v=.string (if p≤2 then ⟨#[]⟩ else ⟨#[99]⟩)∧wr.heap[W.heap.size]? = some (.stringIter ⟨#[112,103,99,102,108]⟩ p)∧Below W.heap.size W wr) (fun _ _ _ wr=>5 - wr.iterPos W.heap.size)
 case atStart =>
  refine ⟨0,by omega,rfl,?_,bal (Below.refl _ _) (.stringIter ⟨#[112,103,99,102,108]⟩ 0)⟩
  have:=World.iter_heap W ⟨#[112,103,99,102,108]⟩ 0
  simpa using this
 case round =>
  obtain ⟨p,hp,rfl,hit,hb⟩:=hrel
  have HIT:=hid hit
  have HB:=hid hb
  have hsz:W.heap.size<wr.heap.size:=(Array.getElem?_eq_some_iff.1 hit).1
  have hc:p=0∨p=1∨p=2∨p=3∨p=4∨p=5:=by omega
  clear hit hb hp
  rcases hc with rfl | rfl | rfl | rfl | rfl | rfl
  ·have hnx:∀ ty,(Instr.next (.pointer (some ⟨W.heap.size,0,none⟩)) true ty).run Tryz.prog wr=.ok (.tuple #[.bool true,.int .i64 0,.int .i32 112]) (wr.iterAt W.heap.size ⟨#[112,103,99,102,108]⟩ 1):=fun ty=>Lib.run_next_ascii_at wr W.heap.size ⟨#[112,103,99,102,108]⟩ 0 ty HIT.out (by decide) (by decide)
   simp only [show (0:Nat)≤2↔True by decide,if_true,if_false]
   go_wp2
   go_roundw
   case rel=>exact ⟨1,by omega,by first | rfl | decide,Lib.iterAt_heap wr W.heap.size _ 0 1 HIT.out,Lib.below_iterAt HB.out (by omega) _ _⟩
   case measure=>simp only [World.iterPos,Lib.iterAt_heap wr W.heap.size _ 0 1 HIT.out,HIT.out];omega
  ·have hnx:∀ ty,(Instr.next (.pointer (some ⟨W.heap.size,0,none⟩)) true ty).run Tryz.prog wr=.ok (.tuple #[.bool true,.int .i64 1,.int .i32 103]) (wr.iterAt W.heap.size ⟨#[112,103,99,102,108]⟩ 2):=fun ty=>Lib.run_next_ascii_at wr W.heap.size ⟨#[112,103,99,102,108]⟩ 1 ty HIT.out (by decide) (by decide)
   simp only [show (1:Nat)≤2↔True by decide,if_true,if_false]
   go_wp2
   go_roundw
   case rel=>exact ⟨2,by omega,by first | rfl | decide,Lib.iterAt_heap wr W.heap.size _ 1 2 HIT.out,Lib.below_iterAt HB.out (by omega) _ _⟩
   case measure=>simp only [World.iterPos,Lib.iterAt_heap wr W.heap.size _ 1 2 HIT.out,HIT.out];omega
  ·have hnx:∀ ty,(Instr.next (.pointer (some ⟨W.heap.size,0,none⟩)) true ty).run Tryz.prog wr=.ok (.tuple #[.bool true,.int .i64 2,.int .i32 99]) (wr.iterAt W.heap.size ⟨#[112,103,99,102,108]⟩ 3):=fun ty=>Lib.run_next_ascii_at wr W.heap.size ⟨#[112,103,99,102,108]⟩ 2 ty HIT.out (by decide) (by decide)
   simp only [show (2:Nat)≤2↔True by decide,if_true,if_false]
   go_wp2
   go_roundw
   case rel=>exact ⟨3,by omega,by first | rfl | decide,Lib.iterAt_heap wr W.heap.size _ 2 3 HIT.out,Lib.below_iterAt HB.out (by omega) _ _⟩
   case measure=>simp only [World.iterPos,Lib.iterAt_heap wr W.heap.size _ 2 3 HIT.out,HIT.out];omega
  ·have hnx:∀ ty,(Instr.next (.pointer (some ⟨W.heap.size,0,none⟩)) true ty).run Tryz.prog wr=.ok (.tuple #[.bool true,.int .i64 3,.int .i32 102]) (wr.iterAt W.heap.size ⟨#[112,103,99,102,108]⟩ 4):=fun ty=>Lib.run_next_ascii_at wr W.heap.size ⟨#[112,103,99,102,108]⟩ 3 ty HIT.out (by decide) (by decide)
   simp only [show (3:Nat)≤2↔False by decide,if_true,if_false]
   go_wp2
   go_roundw
   case rel=>exact ⟨4,by omega,by first | rfl | decide,Lib.iterAt_heap wr W.heap.size _ 3 4 HIT.out,Lib.below_iterAt HB.out (by omega) _ _⟩
   case measure=>simp only [World.iterPos,Lib.iterAt_heap wr W.heap.size _ 3 4 HIT.out,HIT.out];omega
  ·have hnx:∀ ty,(Instr.next (.pointer (some ⟨W.heap.size,0,none⟩)) true ty).run Tryz.prog wr=.ok (.tuple #[.bool true,.int .i64 4,.int .i32 108]) (wr.iterAt W.heap.size ⟨#[112,103,99,102,108]⟩ 5):=fun ty=>Lib.run_next_ascii_at wr W.heap.size ⟨#[112,103,99,102,108]⟩ 4 ty HIT.out (by decide) (by decide)
   simp only [show (4:Nat)≤2↔False by decide,if_true,if_false]
   go_wp2
   go_roundw
   case rel=>exact ⟨5,by omega,by first | rfl | decide,Lib.iterAt_heap wr W.heap.size _ 4 5 HIT.out,Lib.below_iterAt HB.out (by omega) _ _⟩
   case measure=>simp only [World.iterPos,Lib.iterAt_heap wr W.heap.size _ 4 5 HIT.out,HIT.out];omega
  ·have hnx:∀ ty,(Instr.next (.pointer (some ⟨W.heap.size,0,none⟩)) true ty).run Tryz.prog wr=.ok (.tuple #[.bool false]) wr:=fun ty=>Lib.run_next_end_at wr W.heap.size ⟨#[112,103,99,102,108]⟩ 5 ty HIT.out (by decide)
   simp only [show (5:Nat)≤2↔False by decide,if_false]
   go_wp2_with (go_at_call 208;refine (HO.out _ _ (by simp [go_sem])).mono ?_;rintro e w2 ⟨rfl,rfl⟩)
   go_ret
   exact ⟨rfl,btr HB.out Bw.out⟩
theorem letter_3 (W:World):Calls Tryz.prog 191 #[.int .i64 8] W fun e w'=>e=.returned (.string ⟨#[102]⟩)∧Below W.heap.size W w':=by
 have HO:=hid fun g W' c=>cmpor_any ⟨#[102]⟩ g W' (by first | decide +kernel | simp [ByteArray.toList]) c
 go_enter Tryz.func191,Tryz.ntmps191
 go_wp2
 go_loopw [3,4,5] (fun v _ _ wr=>∃ p:Nat,p≤5∧v=.string (if p≤3 then ⟨#[]⟩ else ⟨#[102]⟩)∧wr.heap[W.heap.size]? = some (.stringIter ⟨#[112,103,99,102,108]⟩ p)∧Below W.heap.size W wr) (fun _ _ _ wr=>5 - wr.iterPos W.heap.size)
 case atStart =>
  refine ⟨0,by omega,rfl,?_,bal (Below.refl _ _) (.stringIter ⟨#[112,103,99,102,108]⟩ 0)⟩
  have:=World.iter_heap W ⟨#[112,103,99,102,108]⟩ 0
  simpa using this
 case round =>
  obtain ⟨p,hp,rfl,hit,hb⟩:=hrel
  have HIT:=hid hit
  have HB:=hid hb
  have hsz:W.heap.size<wr.heap.size:=(Array.getElem?_eq_some_iff.1 hit).1
  have hc:p=0∨p=1∨p=2∨p=3∨p=4∨p=5:=by omega
  clear hit hb hp
  rcases hc with rfl | rfl | rfl | rfl | rfl | rfl
  ·have hnx:∀ ty,(Instr.next (.pointer (some ⟨W.heap.size,0,none⟩)) true ty).run Tryz.prog wr=.ok (.tuple #[.bool true,.int .i64 0,.int .i32 112]) (wr.iterAt W.heap.size ⟨#[112,103,99,102,108]⟩ 1):=fun ty=>Lib.run_next_ascii_at wr W.heap.size ⟨#[112,103,99,102,108]⟩ 0 ty HIT.out (by decide) (by decide)
   simp only [show (0:Nat)≤3↔True by decide,if_true,if_false]
   go_wp2
   go_roundw
   case rel=>exact ⟨1,by omega,by first | rfl | decide,Lib.iterAt_heap wr W.heap.size _ 0 1 HIT.out,Lib.below_iterAt HB.out (by omega) _ _⟩
   case measure=>simp only [World.iterPos,Lib.iterAt_heap wr W.heap.size _ 0 1 HIT.out,HIT.out];omega
  ·have hnx:∀ ty,(Instr.next (.pointer (some ⟨W.heap.size,0,none⟩)) true ty).run Tryz.prog wr=.ok (.tuple #[.bool true,.int .i64 1,.int .i32 103]) (wr.iterAt W.heap.size ⟨#[112,103,99,102,108]⟩ 2):=fun ty=>Lib.run_next_ascii_at wr W.heap.size ⟨#[112,103,99,102,108]⟩ 1 ty HIT.out (by decide) (by decide)
   simp only [show (1:Nat)≤3↔True by decide,if_true,if_false]
   go_wp2
   go_roundw
   case rel=>exact ⟨2,by omega,by first | rfl | decide,Lib.iterAt_heap wr W.heap.size _ 1 2 HIT.out,Lib.below_iterAt HB.out (by omega) _ _⟩
   case measure=>simp only [World.iterPos,Lib.iterAt_heap wr W.heap.size _ 1 2 HIT.out,HIT.out];omega
  ·have hnx:∀ ty,(Instr.next (.pointer (some ⟨W.heap.size,0,none⟩)) true ty).run Tryz.prog wr=.ok (.tuple #[.bool true,.int .i64 2,.int .i32 99]) (wr.iterAt W.heap.size ⟨#[112,103,99,102,108]⟩ 3):=fun ty=>Lib.run_next_ascii_at wr W.heap.size ⟨#[112,103,99,102,108]⟩ 2 ty HIT.out (by decide) (by decide)
   simp only [show (2:Nat)≤3↔True by decide,if_true,if_false]
   go_wp2
   go_roundw
   case rel=>exact ⟨3,by omega,by first | rfl | decide,Lib.iterAt_heap wr W.heap.size _ 2 3 HIT.out,Lib.below_iterAt HB.out (by omega) _ _⟩
   case measure=>simp only [World.iterPos,Lib.iterAt_heap wr W.heap.size _ 2 3 HIT.out,HIT.out];omega
  ·have hnx:∀ ty,(Instr.next (.pointer (some ⟨W.heap.size,0,none⟩)) true ty).run Tryz.prog wr=.ok (.tuple #[.bool true,.int .i64 3,.int .i32 102]) (wr.iterAt W.heap.size ⟨#[112,103,99,102,108]⟩ 4):=fun ty=>Lib.run_next_ascii_at wr W.heap.size ⟨#[112,103,99,102,108]⟩ 3 ty HIT.out (by decide) (by decide)
   simp only [show (3:Nat)≤3↔True by decide,if_true,if_false]
   go_wp2
   go_roundw
   case rel=>exact ⟨4,by omega,by first | rfl | decide,Lib.iterAt_heap wr W.heap.size _ 3 4 HIT.out,Lib.below_iterAt HB.out (by omega) _ _⟩
   case measure=>simp only [World.iterPos,Lib.iterAt_heap wr W.heap.size _ 3 4 HIT.out,HIT.out];omega
  ·have hnx:∀ ty,(Instr.next (.pointer (some ⟨W.heap.size,0,none⟩)) true ty).run Tryz.prog wr=.ok (.tuple #[.bool true,.int .i64 4,.int .i32 108]) (wr.iterAt W.heap.size ⟨#[112,103,99,102,108]⟩ 5):=fun ty=>Lib.run_next_ascii_at wr W.heap.size ⟨#[112,103,99,102,108]⟩ 4 ty HIT.out (by decide) (by decide)
   simp only [show (4:Nat)≤3↔False by decide,if_true,if_false]
   go_wp2
   go_roundw
   case rel=>exact ⟨5,by omega,by first | rfl | decide,Lib.iterAt_heap wr W.heap.size _ 4 5 HIT.out,Lib.below_iterAt HB.out (by omega) _ _⟩
   case measure=>simp only [World.iterPos,Lib.iterAt_heap wr W.heap.size _ 4 5 HIT.out,HIT.out];omega
  ·have hnx:∀ ty,(Instr.next (.pointer (some ⟨W.heap.size,0,none⟩)) true ty).run Tryz.prog wr=.ok (.tuple #[.bool false]) wr:=fun ty=>Lib.run_next_end_at wr W.heap.size ⟨#[112,103,99,102,108]⟩ 5 ty HIT.out (by decide)
   simp only [show (5:Nat)≤3↔False by decide,if_false]
   go_wp2_with (go_at_call 208;refine (HO.out _ _ (by simp [go_sem])).mono ?_;rintro e w2 ⟨rfl,rfl⟩)
   go_ret
   exact ⟨rfl,btr HB.out Bw.out⟩
theorem letter_4 (W:World):Calls Tryz.prog 191 #[.int .i64 16] W fun e w'=>e=.returned (.string ⟨#[108]⟩)∧Below W.heap.size W w':=by
 have HO:=hid fun g W' c=>cmpor_any ⟨#[108]⟩ g W' (by first | decide +kernel | simp [ByteArray.toList]) c
 go_enter Tryz.func191,Tryz.ntmps191
 go_wp2
 go_loopw [3,4,5] (fun v _ _ wr=>∃ p:Nat,p≤5∧v=.string (if p≤4 then ⟨#[]⟩ else ⟨#[108]⟩)∧wr.heap[W.heap.size]? = some (.stringIter ⟨#[112,103,99,102,108]⟩ p)∧Below W.heap.size W wr) (fun _ _ _ wr=>5 - wr.iterPos W.heap.size)
 case atStart =>
  refine ⟨0,by omega,rfl,?_,bal (Below.refl _ _) (.stringIter ⟨#[112,103,99,102,108]⟩ 0)⟩
  have:=World.iter_heap W ⟨#[112,103,99,102,108]⟩ 0
  simpa using this
 case round =>
  obtain ⟨p,hp,rfl,hit,hb⟩:=hrel
  have HIT:=hid hit
  have HB:=hid hb
  have hsz:W.heap.size<wr.heap.size:=(Array.getElem?_eq_some_iff.1 hit).1
  have hc:p=0∨p=1∨p=2∨p=3∨p=4∨p=5:=by omega
  clear hit hb hp
  rcases hc with rfl | rfl | rfl | rfl | rfl | rfl
  ·have hnx:∀ ty,(Instr.next (.pointer (some ⟨W.heap.size,0,none⟩)) true ty).run Tryz.prog wr=.ok (.tuple #[.bool true,.int .i64 0,.int .i32 112]) (wr.iterAt W.heap.size ⟨#[112,103,99,102,108]⟩ 1):=fun ty=>Lib.run_next_ascii_at wr W.heap.size ⟨#[112,103,99,102,108]⟩ 0 ty HIT.out (by decide) (by decide)
   simp only [show (0:Nat)≤4↔True by decide,if_true,if_false]
   go_wp2
   go_roundw
   case rel=>exact ⟨1,by omega,by first | rfl | decide,Lib.iterAt_heap wr W.heap.size _ 0 1 HIT.out,Lib.below_iterAt HB.out (by omega) _ _⟩
   case measure=>simp only [World.iterPos,Lib.iterAt_heap wr W.heap.size _ 0 1 HIT.out,HIT.out];omega
  ·have hnx:∀ ty,(Instr.next (.pointer (some ⟨W.heap.size,0,none⟩)) true ty).run Tryz.prog wr=.ok (.tuple #[.bool true,.int .i64 1,.int .i32 103]) (wr.iterAt W.heap.size ⟨#[112,103,99,102,108]⟩ 2):=fun ty=>Lib.run_next_ascii_at wr W.heap.size ⟨#[112,103,99,102,108]⟩ 1 ty HIT.out (by decide) (by decide)
   simp only [show (1:Nat)≤4↔True by decide,if_true,if_false]
   go_wp2
   go_roundw
   case rel=>exact ⟨2,by omega,by first | rfl | decide,Lib.iterAt_heap wr W.heap.size _ 1 2 HIT.out,Lib.below_iterAt HB.out (by omega) _ _⟩
   case measure=>simp only [World.iterPos,Lib.iterAt_heap wr W.heap.size _ 1 2 HIT.out,HIT.out];omega
  ·have hnx:∀ ty,(Instr.next (.pointer (some ⟨W.heap.size,0,none⟩)) true ty).run Tryz.prog wr=.ok (.tuple #[.bool true,.int .i64 2,.int .i32 99]) (wr.iterAt W.heap.size ⟨#[112,103,99,102,108]⟩ 3):=fun ty=>Lib.run_next_ascii_at wr W.heap.size ⟨#[112,103,99,102,108]⟩ 2 ty HIT.out (by decide) (by decide)
   simp only [show (2:Nat)≤4↔True by decide,if_true,if_false]
   go_wp2
   go_roundw
   case rel=>exact ⟨3,by omega,by first | rfl | decide,Lib.iterAt_heap wr W.heap.size _ 2 3 HIT.out,Lib.below_iterAt HB.out (by omega) _ _⟩
   case measure=>simp only [World.iterPos,Lib.iterAt_heap wr W.heap.size _ 2 3 HIT.out,HIT.out];omega
  ·have hnx:∀ ty,(Instr.next (.pointer (some ⟨W.heap.size,0,none⟩)) true ty).run Tryz.prog wr=.ok (.tuple #[.bool true,.int .i64 3,.int .i32 102]) (wr.iterAt W.heap.size ⟨#[112,103,99,102,108]⟩ 4):=fun ty=>Lib.run_next_ascii_at wr W.heap.size ⟨#[112,103,99,102,108]⟩ 3 ty HIT.out (by decide) (by decide)
   simp only [show (3:Nat)≤4↔True by decide,if_true,if_false]
   go_wp2
   go_roundw
   case rel=>exact ⟨4,by omega,by first | rfl | decide,Lib.iterAt_heap wr W.heap.size _ 3 4 HIT.out,Lib.below_iterAt HB.out (by omega) _ _⟩
   case measure=>simp only [World.iterPos,Lib.iterAt_heap wr W.heap.size _ 3 4 HIT.out,HIT.out];omega
  ·have hnx:∀ ty,(Instr.next (.pointer (some ⟨W.heap.size,0,none⟩)) true ty).run Tryz.prog wr=.ok (.tuple #[.bool true,.int .i64 4,.int .i32 108]) (wr.iterAt W.heap.size ⟨#[112,103,99,102,108]⟩ 5):=fun ty=>Lib.run_next_ascii_at wr W.heap.size ⟨#[112,103,99,102,108]⟩ 4 ty HIT.out (by decide) (by decide)
   simp only [show (4:Nat)≤4↔True by decide,if_true,if_false]
   go_wp2
   go_roundw
   case rel=>exact ⟨5,by omega,by first | rfl | decide,Lib.iterAt_heap wr W.heap.size _ 4 5 HIT.out,Lib.below_iterAt HB.out (by omega) _ _⟩
   case measure=>simp only [World.iterPos,Lib.iterAt_heap wr W.heap.size _ 4 5 HIT.out,HIT.out];omega
  ·have hnx:∀ ty,(Instr.next (.pointer (some ⟨W.heap.size,0,none⟩)) true ty).run Tryz.prog wr=.ok (.tuple #[.bool false]) wr:=fun ty=>Lib.run_next_end_at wr W.heap.size ⟨#[112,103,99,102,108]⟩ 5 ty HIT.out (by decide)
   simp only [show (5:Nat)≤4↔False by decide,if_false]
   go_wp2_with (go_at_call 208;refine (HO.out _ _ (by simp [go_sem])).mono ?_;rintro e w2 ⟨rfl,rfl⟩)
   go_ret
   exact ⟨rfl,btr HB.out Bw.out⟩
theorem letter_any (m:Int) (hm:oneMark m=true) (W:World):Calls Tryz.prog 161 #[.int .i64 m] W fun e w'=>e=.returned (.string (markWord m))∧Below W.heap.size W w':=by
 have H:RowKit.Hid (Calls Tryz.prog 191 #[.int .i64 m] W fun e w'=>e=.returned (.string (markWord m))∧Below W.heap.size W w'):=by
  rcases oneMark_cases hm with rfl | rfl | rfl | rfl | rfl
  ·exact letter_0 W
  ·exact letter_1 W
  ·exact letter_2 W
  ·exact letter_3 W
  ·exact letter_4 W
 clear hm
 go_enter Tryz.func161,Tryz.ntmps161
 go_wp2_with (go_at_call 191;refine H.out.mono ?_;rintro e w2 ⟨rfl,hb⟩)
 go_ret
 exact ⟨rfl,hb⟩
def NewW (w:World) (l:List ByteArray) (e:Ending) (w':World):Prop:=∃ v,e=.returned v∧w'.ownsRow w.heap.size 9 1 v l.length (strCells l)∧Below w.heap.size w w'
theorem own_lit {w:World} {base k:Nat} {e:TypeId} (l:List Value) (hb:base≤w.heap.size) (hk:l.length≤1000) (hn:k=l.length):(w.alloc (.cells l.toArray e)).ownsRow base e 1 (.slice (some ⟨w.heap.size,0,none⟩) k k) k l:=by
 subst hn
 exact ⟨by simp,.inr ⟨w.heap.size,l.length,l.toArray,rfl,hb,Blk.new _ _ _,Nat.le_refl _,by unfold maxLen;omega,by simp,by simp⟩⟩
theorem own_len {w:World} {base n n' size:Nat} {v:Value} {e:TypeId} {xs ys:List Value} (h:w.ownsRow base e size v n xs) (h1:n=n') (h2:xs=ys):w.ownsRow base e size v n' ys:=by subst h1;subst h2;exact h
def Prints (t:TmM):Prop:=∀ w:World,TmOk w t→Calls Tryz.prog 109 #[.agg (encTm t).toArray] w (NewW w t.pl.words)
theorem prints_1 (num more:Int) (a:Option Addr) (n c:Nat) (hf:formB 1 num more 0=true):Prints (.mk 1 num more a n c []):=by
 obtain ⟨rfl,rfl⟩:num=0∧more=0:=by simp [formB] at hf;exact hf
 intro w h
 obtain ⟨W,hW⟩:∃ W,w.alloc (.cells #[.int .i64 1,.int .i64 0,.int .i64 0,.slice a n c] 24)=W:=⟨_,rfl⟩
 have B0:RowKit.Hid (Blk W w.heap.size 24 #[.int .i64 1,.int .i64 0,.int .i64 0,.slice a n c]):=by show Blk _ _ _ _;rw [← hW];exact Blk.new w _ _
 have BB:RowKit.Hid (Below w.heap.size w W):=by show Below _ _ _;rw [← hW];exact Bw.out
 have x0:W.cell? ⟨w.heap.size,0,none⟩=some (.int .i64 1):=B0.out.cell 0
 have x1:W.cell? ⟨w.heap.size,1,none⟩=some (.int .i64 0):=B0.out.cell 1
 have x2:W.cell? ⟨w.heap.size,2,none⟩=some (.int .i64 0):=B0.out.cell 2
 have x3:W.cell? ⟨w.heap.size,3,none⟩=some (.slice a n c):=B0.out.cell 3
 have y0:=B0.out.lt
 have e0:(TmM.mk 1 0 0 a n c []).pl.words=[⟨#[116,114,117,101]⟩]:=by simp [TmM.pl,TmM.pls,Tm.words_mk,opWord,leafWords,wTrue,wCrop,wFamily,wMark,wZone,wSame,wBefore,wKnown]
 show Calls Tryz.prog _ #[.agg #[.int .i64 1,.int .i64 0,.int .i64 0,.slice a n c]] w _
 rw [e0]
 clear e0 hf h
 go_enter Tryz.func109,Tryz.ntmps109
 go_wp2
 go_ret
 exact ⟨_,rfl,own_lit [.string ⟨#[116,114,117,101]⟩] (by have:=BB.out.size;omega) (by simp) rfl,bal BB.out _⟩
theorem prints_2 (num more:Int) (a:Option Addr) (n c:Nat) (hf:formB 2 num more 0=true):Prints (.mk 2 num more a n c []):=by
 obtain ⟨⟨h1,h2⟩,rfl⟩:(0≤num∧num≤39)∧more=0:=by simp [formB] at hf;exact hf
 intro w h
 obtain ⟨W,hW⟩:∃ W,w.alloc (.cells #[.int .i64 2,.int .i64 num,.int .i64 0,.slice a n c] 24)=W:=⟨_,rfl⟩
 have B0:RowKit.Hid (Blk W w.heap.size 24 #[.int .i64 2,.int .i64 num,.int .i64 0,.slice a n c]):=by show Blk _ _ _ _;rw [← hW];exact Blk.new w _ _
 have BB:RowKit.Hid (Below w.heap.size w W):=by show Below _ _ _;rw [← hW];exact Bw.out
 have x0:W.cell? ⟨w.heap.size,0,none⟩=some (.int .i64 2):=B0.out.cell 0
 have x1:W.cell? ⟨w.heap.size,1,none⟩=some (.int .i64 num):=B0.out.cell 1
 have x2:W.cell? ⟨w.heap.size,2,none⟩=some (.int .i64 0):=B0.out.cell 2
 have x3:W.cell? ⟨w.heap.size,3,none⟩=some (.slice a n c):=B0.out.cell 3
 have y0:=B0.out.lt
 have e0:(TmM.mk 2 num 0 a n c []).pl.words=[⟨#[99,114,111,112]⟩,numWord num]:=by simp [TmM.pl,TmM.pls,Tm.words_mk,opWord,leafWords,wTrue,wCrop,wFamily,wMark,wZone,wSame,wBefore,wKnown]
 show Calls Tryz.prog _ #[.agg #[.int .i64 2,.int .i64 num,.int .i64 0,.slice a n c]] w _
 rw [e0]
 clear e0 hf h
 have HD:=hid fun W' (hW':Below w.heap.size w W')=>pdec_any num (by omega) (by omega) w W' hW'
 go_enter Tryz.func109,Tryz.ntmps109
 go_wp2_with (go_at_call 162;refine (HD.out _ BB.out).mono ?_;rintro e w1 ⟨rfl,hb1⟩;have HB1:=hid (btr BB.out hb1);have x2':=bc1 hb1 x2;have y1:=hb1.size;clear hb1)
 go_ret
 exact ⟨_,rfl,own_lit [.string ⟨#[99,114,111,112]⟩,.string (numWord num)] (by have:=HB1.out.size;omega) (by simp) rfl,bal HB1.out _⟩
theorem prints_3 (num more:Int) (a:Option Addr) (n c:Nat) (hf:formB 3 num more 0=true):Prints (.mk 3 num more a n c []):=by
 obtain ⟨⟨h1,h2⟩,rfl⟩:(0≤num∧num≤40)∧more=0:=by simp [formB] at hf;exact hf
 intro w h
 obtain ⟨W,hW⟩:∃ W,w.alloc (.cells #[.int .i64 3,.int .i64 num,.int .i64 0,.slice a n c] 24)=W:=⟨_,rfl⟩
 have B0:RowKit.Hid (Blk W w.heap.size 24 #[.int .i64 3,.int .i64 num,.int .i64 0,.slice a n c]):=by show Blk _ _ _ _;rw [← hW];exact Blk.new w _ _
 have BB:RowKit.Hid (Below w.heap.size w W):=by show Below _ _ _;rw [← hW];exact Bw.out
 have x0:W.cell? ⟨w.heap.size,0,none⟩=some (.int .i64 3):=B0.out.cell 0
 have x1:W.cell? ⟨w.heap.size,1,none⟩=some (.int .i64 num):=B0.out.cell 1
 have x2:W.cell? ⟨w.heap.size,2,none⟩=some (.int .i64 0):=B0.out.cell 2
 have x3:W.cell? ⟨w.heap.size,3,none⟩=some (.slice a n c):=B0.out.cell 3
 have y0:=B0.out.lt
 have e0:(TmM.mk 3 num 0 a n c []).pl.words=[⟨#[102,97,109,105,108,121]⟩,numWord num]:=by simp [TmM.pl,TmM.pls,Tm.words_mk,opWord,leafWords,wTrue,wCrop,wFamily,wMark,wZone,wSame,wBefore,wKnown]
 show Calls Tryz.prog _ #[.agg #[.int .i64 3,.int .i64 num,.int .i64 0,.slice a n c]] w _
 rw [e0]
 clear e0 hf h
 have HD:=hid fun W' (hW':Below w.heap.size w W')=>pdec_any num (by omega) (by omega) w W' hW'
 go_enter Tryz.func109,Tryz.ntmps109
 go_wp2_with (go_at_call 162;refine (HD.out _ BB.out).mono ?_;rintro e w1 ⟨rfl,hb1⟩;have HB1:=hid (btr BB.out hb1);have x2':=bc1 hb1 x2;have y1:=hb1.size;clear hb1)
 go_ret
 exact ⟨_,rfl,own_lit [.string ⟨#[102,97,109,105,108,121]⟩,.string (numWord num)] (by have:=HB1.out.size;omega) (by simp) rfl,bal HB1.out _⟩
theorem prints_4 (num more:Int) (a:Option Addr) (n c:Nat) (hf:formB 4 num more 0=true):Prints (.mk 4 num more a n c []):=by
 obtain ⟨hm,rfl⟩:oneMark num=true∧more=0:=by simp [formB] at hf;exact hf
 intro w h
 obtain ⟨W,hW⟩:∃ W,w.alloc (.cells #[.int .i64 4,.int .i64 num,.int .i64 0,.slice a n c] 24)=W:=⟨_,rfl⟩
 have B0:RowKit.Hid (Blk W w.heap.size 24 #[.int .i64 4,.int .i64 num,.int .i64 0,.slice a n c]):=by show Blk _ _ _ _;rw [← hW];exact Blk.new w _ _
 have BB:RowKit.Hid (Below w.heap.size w W):=by show Below _ _ _;rw [← hW];exact Bw.out
 have x0:W.cell? ⟨w.heap.size,0,none⟩=some (.int .i64 4):=B0.out.cell 0
 have x1:W.cell? ⟨w.heap.size,1,none⟩=some (.int .i64 num):=B0.out.cell 1
 have x2:W.cell? ⟨w.heap.size,2,none⟩=some (.int .i64 0):=B0.out.cell 2
 have x3:W.cell? ⟨w.heap.size,3,none⟩=some (.slice a n c):=B0.out.cell 3
 have y0:=B0.out.lt
 have e0:(TmM.mk 4 num 0 a n c []).pl.words=[⟨#[109,97,114,107]⟩,markWord num]:=by simp [TmM.pl,TmM.pls,Tm.words_mk,opWord,leafWords,wTrue,wCrop,wFamily,wMark,wZone,wSame,wBefore,wKnown]
 show Calls Tryz.prog _ #[.agg #[.int .i64 4,.int .i64 num,.int .i64 0,.slice a n c]] w _
 rw [e0]
 clear e0 hf h
 have HL:=hid fun W' (hW':Below w.heap.size w W')=>letter_any num hm W'
 go_enter Tryz.func109,Tryz.ntmps109
 go_wp2_with (go_at_call 161;refine (HL.out _ BB.out).mono ?_;rintro e w2 ⟨rfl,hb2⟩;have HB2:=hid (btr BB.out hb2);clear hb2)
 go_ret
 exact ⟨_,rfl,own_lit [.string ⟨#[109,97,114,107]⟩,.string (markWord num)] (by have:=HB2.out.size;omega) (by simp) rfl,bal HB2.out _⟩
theorem prints_5 (num more:Int) (a:Option Addr) (n c:Nat) (hf:formB 5 num more 0=true):Prints (.mk 5 num more a n c []):=by
 obtain ⟨⟨h1,h2⟩,rfl⟩:(0≤num∧num≤15)∧more=0:=by simp [formB] at hf;exact hf
 intro w h
 obtain ⟨W,hW⟩:∃ W,w.alloc (.cells #[.int .i64 5,.int .i64 num,.int .i64 0,.slice a n c] 24)=W:=⟨_,rfl⟩
 have B0:RowKit.Hid (Blk W w.heap.size 24 #[.int .i64 5,.int .i64 num,.int .i64 0,.slice a n c]):=by show Blk _ _ _ _;rw [← hW];exact Blk.new w _ _
 have BB:RowKit.Hid (Below w.heap.size w W):=by show Below _ _ _;rw [← hW];exact Bw.out
 have x0:W.cell? ⟨w.heap.size,0,none⟩=some (.int .i64 5):=B0.out.cell 0
 have x1:W.cell? ⟨w.heap.size,1,none⟩=some (.int .i64 num):=B0.out.cell 1
 have x2:W.cell? ⟨w.heap.size,2,none⟩=some (.int .i64 0):=B0.out.cell 2
 have x3:W.cell? ⟨w.heap.size,3,none⟩=some (.slice a n c):=B0.out.cell 3
 have y0:=B0.out.lt
 have e0:(TmM.mk 5 num 0 a n c []).pl.words=[⟨#[122,111,110,101]⟩,numWord num]:=by simp [TmM.pl,TmM.pls,Tm.words_mk,opWord,leafWords,wTrue,wCrop,wFamily,wMark,wZone,wSame,wBefore,wKnown]
 show Calls Tryz.prog _ #[.agg #[.int .i64 5,.int .i64 num,.int .i64 0,.slice a n c]] w _
 rw [e0]
 clear e0 hf h
 have HD:=hid fun W' (hW':Below w.heap.size w W')=>pdec_any num (by omega) (by omega) w W' hW'
 go_enter Tryz.func109,Tryz.ntmps109
 go_wp2_with (go_at_call 162;refine (HD.out _ BB.out).mono ?_;rintro e w1 ⟨rfl,hb1⟩;have HB1:=hid (btr BB.out hb1);have x2':=bc1 hb1 x2;have y1:=hb1.size;clear hb1)
 go_ret
 exact ⟨_,rfl,own_lit [.string ⟨#[122,111,110,101]⟩,.string (numWord num)] (by have:=HB1.out.size;omega) (by simp) rfl,bal HB1.out _⟩
theorem prints_6 (num more:Int) (a:Option Addr) (n c:Nat) (hf:formB 6 num more 0=true):Prints (.mk 6 num more a n c []):=by
 obtain ⟨⟨h1,h2⟩,rfl⟩:(2≤num∧num≤10)∧more=0:=by simp [formB] at hf;exact hf
 intro w h
 obtain ⟨W,hW⟩:∃ W,w.alloc (.cells #[.int .i64 6,.int .i64 num,.int .i64 0,.slice a n c] 24)=W:=⟨_,rfl⟩
 have B0:RowKit.Hid (Blk W w.heap.size 24 #[.int .i64 6,.int .i64 num,.int .i64 0,.slice a n c]):=by show Blk _ _ _ _;rw [← hW];exact Blk.new w _ _
 have BB:RowKit.Hid (Below w.heap.size w W):=by show Below _ _ _;rw [← hW];exact Bw.out
 have x0:W.cell? ⟨w.heap.size,0,none⟩=some (.int .i64 6):=B0.out.cell 0
 have x1:W.cell? ⟨w.heap.size,1,none⟩=some (.int .i64 num):=B0.out.cell 1
 have x2:W.cell? ⟨w.heap.size,2,none⟩=some (.int .i64 0):=B0.out.cell 2
 have x3:W.cell? ⟨w.heap.size,3,none⟩=some (.slice a n c):=B0.out.cell 3
 have y0:=B0.out.lt
 have e0:(TmM.mk 6 num 0 a n c []).pl.words=[⟨#[115,97,109,101]⟩,numWord num]:=by simp [TmM.pl,TmM.pls,Tm.words_mk,opWord,leafWords,wTrue,wCrop,wFamily,wMark,wZone,wSame,wBefore,wKnown]
 show Calls Tryz.prog _ #[.agg #[.int .i64 6,.int .i64 num,.int .i64 0,.slice a n c]] w _
 rw [e0]
 clear e0 hf h
 have HD:=hid fun W' (hW':Below w.heap.size w W')=>pdec_any num (by omega) (by omega) w W' hW'
 go_enter Tryz.func109,Tryz.ntmps109
 go_wp2_with (go_at_call 162;refine (HD.out _ BB.out).mono ?_;rintro e w1 ⟨rfl,hb1⟩;have HB1:=hid (btr BB.out hb1);have x2':=bc1 hb1 x2;have y1:=hb1.size;clear hb1)
 go_ret
 exact ⟨_,rfl,own_lit [.string ⟨#[115,97,109,101]⟩,.string (numWord num)] (by have:=HB1.out.size;omega) (by simp) rfl,bal HB1.out _⟩
theorem prints_7 (num more:Int) (a:Option Addr) (n c:Nat) (hf:formB 7 num more 0=true):Prints (.mk 7 num more a n c []):=by
 obtain ⟨⟨h1,h2⟩,hm⟩:(1≤num∧num≤10)∧oneMark more=true:=by simp [formB] at hf;exact hf
 intro w h
 obtain ⟨W,hW⟩:∃ W,w.alloc (.cells #[.int .i64 7,.int .i64 num,.int .i64 more,.slice a n c] 24)=W:=⟨_,rfl⟩
 have B0:RowKit.Hid (Blk W w.heap.size 24 #[.int .i64 7,.int .i64 num,.int .i64 more,.slice a n c]):=by show Blk _ _ _ _;rw [← hW];exact Blk.new w _ _
 have BB:RowKit.Hid (Below w.heap.size w W):=by show Below _ _ _;rw [← hW];exact Bw.out
 have x0:W.cell? ⟨w.heap.size,0,none⟩=some (.int .i64 7):=B0.out.cell 0
 have x1:W.cell? ⟨w.heap.size,1,none⟩=some (.int .i64 num):=B0.out.cell 1
 have x2:W.cell? ⟨w.heap.size,2,none⟩=some (.int .i64 more):=B0.out.cell 2
 have x3:W.cell? ⟨w.heap.size,3,none⟩=some (.slice a n c):=B0.out.cell 3
 have y0:=B0.out.lt
 have e0:(TmM.mk 7 num more a n c []).pl.words=[⟨#[98,101,102,111,114,101]⟩,numWord num,markWord more]:=by simp [TmM.pl,TmM.pls,Tm.words_mk,opWord,leafWords,wTrue,wCrop,wFamily,wMark,wZone,wSame,wBefore,wKnown]
 show Calls Tryz.prog _ #[.agg #[.int .i64 7,.int .i64 num,.int .i64 more,.slice a n c]] w _
 rw [e0]
 clear e0 hf h
 have HD:=hid fun W' (hW':Below w.heap.size w W')=>pdec_any num (by omega) (by omega) w W' hW'
 have HL:=hid fun W' (hW':Below w.heap.size w W')=>letter_any more hm W'
 go_enter Tryz.func109,Tryz.ntmps109
 go_wp2_with fail
 go_region_held3 (fun w'=>w'.cell? ⟨w.heap.size,1,none⟩=some (.int .i64 num)∧w'.cell? ⟨w.heap.size,2,none⟩=some (.int .i64 more)) (first | exact ⟨x1,x2⟩ | exact ⟨bc1 k1 x1,bc1 k1 x2⟩ | exact ⟨bc1 k2 x1,bc1 k2 x2⟩ | exact ⟨bc1 (bal k2 _) x1,bc1 (bal k2 _) x2⟩ | simp [go_sem, *]) (first | (go_at_call 162;refine (HD.out _ (btr BB.out (by (repeat (with_reducible first | assumption | exact Below.refl _ _ | refine bdr ?_ | refine bdn ?_ _ | refine bal ?_ _))))).mono ?_;rintro e w1 ⟨rfl,hb1⟩;have k1:Below W.heap.size W w1:=btr (by (repeat (with_reducible first | assumption | exact Below.refl _ _ | refine bdr ?_ | refine bdn ?_ _ | refine bal ?_ _))) hb1;clear hb1) | (go_at_call 161;refine (HL.out _ (btr BB.out (by (repeat (with_reducible first | assumption | exact Below.refl _ _ | refine bdr ?_ | refine bdn ?_ _ | refine bal ?_ _))))).mono ?_;rintro e w2 ⟨rfl,hb2⟩;have k2:Below W.heap.size W w2:=btr (by (repeat (with_reducible first | assumption | exact Below.refl _ _ | refine bdr ?_ | refine bdn ?_ _ | refine bal ?_ _))) hb2;clear hb2))
 all_goals go_wp2
 all_goals go_ret
 all_goals exact ⟨_,rfl,own_lit [.string ⟨#[98,101,102,111,114,101]⟩,.string (numWord num),.string (markWord more)] (by have:=(btr BB.out k2).size;omega) (by simp) rfl,bal (btr BB.out k2) _⟩
theorem prints_8 (num more:Int) (a:Option Addr) (n c:Nat) (hf:formB 8 num more 0=true):Prints (.mk 8 num more a n c []):=by
 obtain ⟨⟨h1,h2⟩,rfl⟩:(1≤num∧num≤10)∧more=0:=by simp [formB] at hf;exact hf
 intro w h
 obtain ⟨W,hW⟩:∃ W,w.alloc (.cells #[.int .i64 8,.int .i64 num,.int .i64 0,.slice a n c] 24)=W:=⟨_,rfl⟩
 have B0:RowKit.Hid (Blk W w.heap.size 24 #[.int .i64 8,.int .i64 num,.int .i64 0,.slice a n c]):=by show Blk _ _ _ _;rw [← hW];exact Blk.new w _ _
 have BB:RowKit.Hid (Below w.heap.size w W):=by show Below _ _ _;rw [← hW];exact Bw.out
 have x0:W.cell? ⟨w.heap.size,0,none⟩=some (.int .i64 8):=B0.out.cell 0
 have x1:W.cell? ⟨w.heap.size,1,none⟩=some (.int .i64 num):=B0.out.cell 1
 have x2:W.cell? ⟨w.heap.size,2,none⟩=some (.int .i64 0):=B0.out.cell 2
 have x3:W.cell? ⟨w.heap.size,3,none⟩=some (.slice a n c):=B0.out.cell 3
 have y0:=B0.out.lt
 have e0:(TmM.mk 8 num 0 a n c []).pl.words=[⟨#[107,110,111,119,110]⟩,numWord num]:=by simp [TmM.pl,TmM.pls,Tm.words_mk,opWord,leafWords,wTrue,wCrop,wFamily,wMark,wZone,wSame,wBefore,wKnown]
 show Calls Tryz.prog _ #[.agg #[.int .i64 8,.int .i64 num,.int .i64 0,.slice a n c]] w _
 rw [e0]
 clear e0 hf h
 have HD:=hid fun W' (hW':Below w.heap.size w W')=>pdec_any num (by omega) (by omega) w W' hW'
 go_enter Tryz.func109,Tryz.ntmps109
 go_wp2_with (go_at_call 162;refine (HD.out _ BB.out).mono ?_;rintro e w1 ⟨rfl,hb1⟩;have HB1:=hid (btr BB.out hb1);have x2':=bc1 hb1 x2;have y1:=hb1.size;clear hb1)
 go_ret
 exact ⟨_,rfl,own_lit [.string ⟨#[107,110,111,119,110]⟩,.string (numWord num)] (by have:=HB1.out.size;omega) (by simp) rfl,bal HB1.out _⟩
theorem own_of_blk {w:World} {base g k:Nat} {e:TypeId} {cs:Array Value} (h:Blk w g e cs) (hb:base≤g) (hk:cs.size≤1000) (hn:k=cs.size):w.ownsRow base e 1 (.slice (some ⟨g,0,none⟩) k k) k cs.toList:=by
 subst hn
 exact ⟨by simp,.inr ⟨g,cs.size,cs,rfl,hb,h,Nat.le_refl _,by unfold maxLen;omega,by simp,List.take_of_length_le (by simp)⟩⟩
def kidW (kids:List TmM) (k:Nat):List ByteArray:=(kids.take k).flatMap fun t=>t.pl.words
theorem kidW_succ {kids:List TmM} {k:Nat} (h:k<kids.length):kidW kids (k+1)=kidW kids k++kids[k].pl.words:=by
 unfold kidW
 rw [List.take_succ_eq_append_getElem h,List.flatMap_append]
 simp
theorem kidW_len (kids:List TmM) (k:Nat):(kidW kids k).length≤3 * Tm.sizes (kids.map TmM.pl):=by
 have h:∀ l:List TmM,(l.flatMap fun t=>t.pl.words).length≤3 * Tm.sizes (l.map TmM.pl):=by
  intro l
  induction l with
  | nil=>exact Nat.zero_le _
  | cons t l ih =>
   have:=Tm.words_len t.pl
   rw [List.flatMap_cons,List.length_append,List.map_cons,Tm.sizes]
   omega
 have h1:=h (kids.take k)
 have h2:Tm.sizes ((kids.take k).map TmM.pl)≤Tm.sizes (kids.map TmM.pl):=by rw [List.map_take];exact Tm.sizes_take_le _ _
 unfold kidW
 omega
def TxI (base:Nat) (W0:World) (w0:ByteArray) (kids:List TmM) (v i:Value) (wr:World):Prop :=
 ∃ k,k≤kids.length∧i=.int .i64 k∧wr.ownsRow base 9 1 v ((kidW kids k).length+2) (strCells (w0 :: wOpen :: kidW kids k))∧Below W0.heap.size W0 wr
theorem encTm_mk (op num more:Int) (a:Option Addr) (n c:Nat) (kids:List TmM):encTm (.mk op num more a n c kids)=[.int .i64 op,.int .i64 num,.int .i64 more,.slice a n c]:=rfl
theorem prints_11 (t:TmM) (ih:Prints t) (a:Option Addr) (c:Nat) (hs:t.pl.size≤1000):Prints (.mk 11 0 0 a 1 c [t]):=by
 intro w h
 obtain ⟨W,hW⟩:∃ W,w.alloc (.cells #[.int .i64 11,.int .i64 0,.int .i64 0,.slice a 1 c] 24)=W:=⟨_,rfl⟩
 have B0:RowKit.Hid (Blk W w.heap.size 24 #[.int .i64 11,.int .i64 0,.int .i64 0,.slice a 1 c]):=by show Blk _ _ _ _;rw [← hW];exact Blk.new w _ _
 have BB:RowKit.Hid (Below w.heap.size w W):=by show Below _ _ _;rw [← hW];exact Bw.out
 have x0:W.cell? ⟨w.heap.size,0,none⟩=some (.int .i64 11):=B0.out.cell 0
 have x3:W.cell? ⟨w.heap.size,3,none⟩=some (.slice a 1 c):=B0.out.cell 3
 have y0:=B0.out.lt
 have HM:=hid (Tm.words_len t.pl)
 have HS:=hid hs
 obtain ⟨b,off,rfl,hbl,hrg⟩:=h.at_ (k:=0) (by simp)
 have HRG:=hid (rangeAt_below hrg BB.out)
 have HIH:=hid fun W' (hW':Below w.heap.size w W')=>ih W' ((h.kid (List.mem_singleton.2 rfl)).beh hW')
 have e0:(TmM.mk 11 0 0 (some ⟨b,off,none⟩) 1 c [t]).pl.words=⟨#[110,111,116]⟩ :: t.pl.words:=by
  rw [TmM.pl_mk,Tm.words_mk];simp [opWord,wNot]
 show Calls Tryz.prog _ #[.agg #[.int .i64 11,.int .i64 0,.int .i64 0,.slice (some ⟨b,off,none⟩) 1 c]] w _
 rw [e0]
 obtain ⟨tw,htw⟩:∃ tw,t.pl.words=tw:=⟨_,rfl⟩
 rw [htw] at HM HIH ⊢
 obtain ⟨op',num',more',a',n',c',kids'⟩:=t
 dsimp only [List.getElem_cons_zero] at HRG
 rw [encTm_mk] at HRG
 have HIH':RowKit.Hid (∀ W',Below w.heap.size w W'→Calls Tryz.prog 109 #[.agg #[.int .i64 op',.int .i64 num',.int .i64 more',.slice a' n' c']] W' (NewW W' tw)):=HIH
 have HN:RowKit.Hid (tw.length≤3000):=by show tw.length≤3000;have h1:=HM.out;have h2:=HS.out;omega
 clear e0 htw h ih hrg hs HM HS HIH
 go_enter Tryz.func109,Tryz.ntmps109
 go_wp2_with (first
  | (refine wpList_load_mid rfl 24 (.tmp 32) rfl b _ rfl [.int .i64 op',.int .i64 num',.int .i64 more',.slice a' n' c'] _ (rangeAt_below HRG.out Bw.out) Tryz.underlying24 rfl tmInfo ?_)
  | (go_at_call 109;refine (HIH'.out _ (btr BB.out Bw.out)).mono ?_;rintro e w2 ⟨v2,rfl,ho2,hb2⟩;obtain ⟨a2,c2,rfl,hq1,hq2,-⟩:=own_form ho2;have HO2:=hid ho2;have q2:Below W.heap.size W w2:=btr Bw.out hb2;clear ho2)
  | (at_builtin;refine app_list elStr rfl _ _ rfl w.heap.size _ 1 [.string ⟨#[110,111,116]⟩] rfl (own_keep (own_lit (base:=w.heap.size) [.string ⟨#[110,111,116]⟩] (by omega) (by decide) rfl) hb2) a2 tw.length c2 (strCells tw) rfl (vw_of_own HO2.out) (own_nil HO2.out) (by simp) (oneC_str _) (by have:=HN.out;omega) (by have:=q2.size;omega) ?_;intro v4 w4 ho4 hg4 _))
 go_ret
 exact ⟨_,rfl,own_len ho4 (by rw [List.length_cons];omega) rfl,below_app (own_keep (own_lit (base:=w.heap.size) [.string ⟨#[110,111,116]⟩] (by omega) (by decide) rfl) hb2) (btr BB.out (btr Bw.out hb2)) hg4⟩
theorem prints_9 (kids:List TmM) (ih:∀ k ∈ kids,Prints k) (a:Option Addr) (n c:Nat) (hn:kids.length=n) (hs:Tm.sizes (kids.map TmM.pl)≤1000):Prints (.mk 9 0 0 a n c kids):=by
 intro w h
 obtain ⟨W,hW⟩:∃ W,w.alloc (.cells #[.int .i64 9,.int .i64 0,.int .i64 0,.slice a n c] 24)=W:=⟨_,rfl⟩
 have B0:RowKit.Hid (Blk W w.heap.size 24 #[.int .i64 9,.int .i64 0,.int .i64 0,.slice a n c]):=by show Blk _ _ _ _;rw [← hW];exact Blk.new w _ _
 have BB:RowKit.Hid (Below w.heap.size w W):=by show Below _ _ _;rw [← hW];exact Bw.out
 have x0:W.cell? ⟨w.heap.size,0,none⟩=some (.int .i64 9):=B0.out.cell 0
 have x3:W.cell? ⟨w.heap.size,3,none⟩=some (.slice a n c):=B0.out.cell 3
 have y0:=B0.out.lt
 have HL:=hid fun k=>kidW_len kids k
 have HS:=hid hs;have HN:=hid hn;have H:=hid h;have IH:=hid ih
 have hkn:n≤1000:=by have:=Tm.sizes_len (kids.map TmM.pl);rw [List.length_map] at this;omega
 have e0:RowKit.Hid ((TmM.mk 9 0 0 a n c kids).pl.words=⟨#[97,110,100]⟩ :: wOpen :: (kidW kids n++[wClose])):=by
  show _=_
  rw [TmM.pl_mk,Tm.words_mk]
  unfold kidW
  rw [List.take_of_length_le (by omega)]
  simp [opWord,wAnd,wOr,List.flatMap_map]
 show Calls Tryz.prog _ #[.agg #[.int .i64 9,.int .i64 0,.int .i64 0,.slice a n c]] w _
 clear h ih hs hn
 go_enter Tryz.func109,Tryz.ntmps109
 go_wp2
 go_loopw [4,48] (fun v i wr=>TxI W.heap.size W ⟨#[97,110,100]⟩ kids v i wr) (fun _ i _=>n - (intOf i).toNat)
 case atStart =>
  refine ⟨0,Nat.zero_le _,rfl,?_,Bw.out⟩
  exact own_of_blk (cs:=#[.string ⟨#[97,110,100]⟩,.string ⟨#[40]⟩]) (Blk.new W _ _) (Nat.le_refl _) (by decide) rfl
 case round =>
  obtain ⟨k,hk,rfl,hown,hb⟩:=hrel
  obtain ⟨a0,c0,rfl,-,-,-⟩:=own_form hown
  have OWN:=hid hown;have HB:=hid hb
  have xo:=bc1 hb x0
  have yb:=hb.size
  have hlk:=HL.out k
  have HNN:=HN.out
  clear hown hb
  by_cases hlt:k<n
  ·have hke:k<kids.length:=by omega
   obtain ⟨b,off,rfl,hbl,hrg⟩:=H.out.at_ hke
   have HRG:=hid (rangeAt_below hrg (btr BB.out HB.out))
   have HKW:=hid (kidW_succ hke)
   have HIH:RowKit.Hid (∀ W',Below wr.heap.size wr W'→Calls Tryz.prog 109 #[.agg (encTm kids[k]).toArray] W' (NewW W' kids[k].pl.words)):=fun W' hW'=>IH.out _ (List.getElem_mem hke) W' ((H.out.kid (List.getElem_mem hke)).beh (btr (btr BB.out HB.out) hW'))
   have hkl:kids[k].pl.words.length≤3000:=by
    have h1:=Tm.words_len kids[k].pl
    have h2:=Tm.sizes_mem (List.mem_map.2 ⟨_,List.getElem_mem hke,rfl⟩:kids[k].pl ∈ kids.map TmM.pl)
    have h3:=HS.out
    omega
   have hsz:=HS.out
   clear hrg
   obtain ⟨kt,hkt⟩:∃ kt,kids[k]=kt:=⟨_,rfl⟩
   rw [hkt] at HRG HIH HKW hkl
   clear hkt
   obtain ⟨tw,htw⟩:∃ tw,kt.pl.words=tw:=⟨_,rfl⟩
   rw [htw] at HIH HKW hkl
   clear htw
   obtain ⟨op',num',more',a',n',c',kids'⟩:=kt
   dsimp only [encTm] at HRG HIH
   obtain ⟨nk,hnk⟩:∃ nk,(kidW kids k).length=nk:=⟨_,rfl⟩
   rw [hnk] at OWN hlk ⊢
   have HNK:=hid hnk
   clear hnk HNN
   go_wp2_with (first
    | (refine wpList_load_mid rfl 24 (.tmp 50) rfl b (off+k * 4) rfl [.int .i64 op',.int .i64 num',.int .i64 more',.slice a' n' c'] _ HRG.out Tryz.underlying24 rfl tmInfo ?_)
    | (refine st_new rfl 24 (.tmp 6) (.tmp 51) rfl #[.int .i64 op',.int .i64 num',.int .i64 more',.slice a' n' c'] _ _ rfl rfl tmInfo rfl (tm_one _ _ _ _ _ _) ?_)
    | (refine wpList_load_row rfl 24 (.tmp 6) rfl wr.heap.size rfl _ #[.int .i64 op',.int .i64 num',.int .i64 more',.slice a' n' c'] _ _ (Blk.new _ _ _) Tryz.underlying24 rfl tmInfo ?_)
    | (go_at_call 109;refine (HIH.out _ Bw.out).mono ?_;rintro e w2 ⟨v2,rfl,ho2,hb2⟩;obtain ⟨a2,c2,rfl,hq1,hq2,-⟩:=own_form ho2;have HO2:=hid ho2;have q2:Below wr.heap.size wr w2:=btr Bw.out hb2;have yq:=q2.size;have Q2:=hid q2;clear ho2 hb2)
    | (at_builtin;refine app_list elStr rfl _ _ rfl W.heap.size _ (nk+2) (strCells (⟨#[97,110,100]⟩ :: wOpen :: kidW kids k)) rfl (own_keep OWN.out Q2.out) a2 tw.length c2 (strCells tw) rfl (vw_of_own HO2.out) (own_nil HO2.out) (by simp) (oneC_str _) (by omega) (by omega) ?_;intro v4 w4 ho4 hg4 _))
   go_roundw
   case rel =>
    refine ⟨k+1,by omega,by go_num,own_len ho4 ?_ ?_,?_⟩
    ·rw [HKW.out,List.length_append,HNK.out];omega
    ·rw [HKW.out];simp [strCells]
    ·exact below_app (own_keep OWN.out Q2.out) (btr HB.out Q2.out) hg4
   case measure=>simp [intOf];omega
  ·obtain rfl:k=n:=by omega
   have hsz:=HS.out
   obtain ⟨nk,hnk⟩:∃ nk,(kidW kids k).length=nk:=⟨_,rfl⟩
   rw [hnk] at OWN hlk ⊢
   have HNK:=hid hnk
   clear hnk HNN
   go_wp2_with (at_builtin;refine app_list elStr rfl _ _ rfl W.heap.size _ (nk+2) (strCells (⟨#[97,110,100]⟩ :: wOpen :: kidW kids k)) rfl (own_keep OWN.out Bw.out) _ 1 _ [.string wClose] rfl (by first | exact vw_blk (Blk.fresh (by simp)) | exact vw_blk (Blk.fresh (by simp)).drew) (by simp) rfl (by intro u hu;rw [List.mem_singleton.1 hu];rfl) (by omega) (by simp;omega) ?_;intro v4 w4 ho4 hg4 _)
   go_ret
   rw [e0.out]
   refine ⟨_,rfl,own_len (own_base ho4 (by omega)) ?_ ?_,below_app (own_base (own_keep OWN.out Bw.out) (show w.heap.size≤W.heap.size by omega)) (btr BB.out (btr HB.out Bw.out)) hg4⟩
   ·simp [HNK.out]
   ·simp [strCells]
theorem prints_10 (kids:List TmM) (ih:∀ k ∈ kids,Prints k) (a:Option Addr) (n c:Nat) (hn:kids.length=n) (hs:Tm.sizes (kids.map TmM.pl)≤1000):Prints (.mk 10 0 0 a n c kids):=by
 intro w h
 obtain ⟨W,hW⟩:∃ W,w.alloc (.cells #[.int .i64 10,.int .i64 0,.int .i64 0,.slice a n c] 24)=W:=⟨_,rfl⟩
 have B0:RowKit.Hid (Blk W w.heap.size 24 #[.int .i64 10,.int .i64 0,.int .i64 0,.slice a n c]):=by show Blk _ _ _ _;rw [← hW];exact Blk.new w _ _
 have BB:RowKit.Hid (Below w.heap.size w W):=by show Below _ _ _;rw [← hW];exact Bw.out
 have x0:W.cell? ⟨w.heap.size,0,none⟩=some (.int .i64 10):=B0.out.cell 0
 have x3:W.cell? ⟨w.heap.size,3,none⟩=some (.slice a n c):=B0.out.cell 3
 have y0:=B0.out.lt
 have HL:=hid fun k=>kidW_len kids k
 have HS:=hid hs;have HN:=hid hn;have H:=hid h;have IH:=hid ih
 have hkn:n≤1000:=by have:=Tm.sizes_len (kids.map TmM.pl);rw [List.length_map] at this;omega
 have e0:RowKit.Hid ((TmM.mk 10 0 0 a n c kids).pl.words=⟨#[111,114]⟩ :: wOpen :: (kidW kids n++[wClose])):=by
  show _=_
  rw [TmM.pl_mk,Tm.words_mk]
  unfold kidW
  rw [List.take_of_length_le (by omega)]
  simp [opWord,wAnd,wOr,List.flatMap_map]
 show Calls Tryz.prog _ #[.agg #[.int .i64 10,.int .i64 0,.int .i64 0,.slice a n c]] w _
 clear h ih hs hn
 go_enter Tryz.func109,Tryz.ntmps109
 go_wp2
 go_loopw [4,48] (fun v i wr=>TxI W.heap.size W ⟨#[111,114]⟩ kids v i wr) (fun _ i _=>n - (intOf i).toNat)
 case atStart =>
  refine ⟨0,Nat.zero_le _,rfl,?_,Bw.out⟩
  exact own_of_blk (cs:=#[.string ⟨#[111,114]⟩,.string ⟨#[40]⟩]) (Blk.new W _ _) (Nat.le_refl _) (by decide) rfl
 case round =>
  obtain ⟨k,hk,rfl,hown,hb⟩:=hrel
  obtain ⟨a0,c0,rfl,-,-,-⟩:=own_form hown
  have OWN:=hid hown;have HB:=hid hb
  have xo:=bc1 hb x0
  have yb:=hb.size
  have hlk:=HL.out k
  have HNN:=HN.out
  clear hown hb
  by_cases hlt:k<n
  ·have hke:k<kids.length:=by omega
   obtain ⟨b,off,rfl,hbl,hrg⟩:=H.out.at_ hke
   have HRG:=hid (rangeAt_below hrg (btr BB.out HB.out))
   have HKW:=hid (kidW_succ hke)
   have HIH:RowKit.Hid (∀ W',Below wr.heap.size wr W'→Calls Tryz.prog 109 #[.agg (encTm kids[k]).toArray] W' (NewW W' kids[k].pl.words)):=fun W' hW'=>IH.out _ (List.getElem_mem hke) W' ((H.out.kid (List.getElem_mem hke)).beh (btr (btr BB.out HB.out) hW'))
   have hkl:kids[k].pl.words.length≤3000:=by
    have h1:=Tm.words_len kids[k].pl
    have h2:=Tm.sizes_mem (List.mem_map.2 ⟨_,List.getElem_mem hke,rfl⟩:kids[k].pl ∈ kids.map TmM.pl)
    have h3:=HS.out
    omega
   have hsz:=HS.out
   clear hrg
   obtain ⟨kt,hkt⟩:∃ kt,kids[k]=kt:=⟨_,rfl⟩
   rw [hkt] at HRG HIH HKW hkl
   clear hkt
   obtain ⟨tw,htw⟩:∃ tw,kt.pl.words=tw:=⟨_,rfl⟩
   rw [htw] at HIH HKW hkl
   clear htw
   obtain ⟨op',num',more',a',n',c',kids'⟩:=kt
   dsimp only [encTm] at HRG HIH
   obtain ⟨nk,hnk⟩:∃ nk,(kidW kids k).length=nk:=⟨_,rfl⟩
   rw [hnk] at OWN hlk ⊢
   have HNK:=hid hnk
   clear hnk HNN
   go_wp2_with (first
    | (refine wpList_load_mid rfl 24 (.tmp 50) rfl b (off+k * 4) rfl [.int .i64 op',.int .i64 num',.int .i64 more',.slice a' n' c'] _ HRG.out Tryz.underlying24 rfl tmInfo ?_)
    | (refine st_new rfl 24 (.tmp 6) (.tmp 51) rfl #[.int .i64 op',.int .i64 num',.int .i64 more',.slice a' n' c'] _ _ rfl rfl tmInfo rfl (tm_one _ _ _ _ _ _) ?_)
    | (refine wpList_load_row rfl 24 (.tmp 6) rfl wr.heap.size rfl _ #[.int .i64 op',.int .i64 num',.int .i64 more',.slice a' n' c'] _ _ (Blk.new _ _ _) Tryz.underlying24 rfl tmInfo ?_)
    | (go_at_call 109;refine (HIH.out _ Bw.out).mono ?_;rintro e w2 ⟨v2,rfl,ho2,hb2⟩;obtain ⟨a2,c2,rfl,hq1,hq2,-⟩:=own_form ho2;have HO2:=hid ho2;have q2:Below wr.heap.size wr w2:=btr Bw.out hb2;have yq:=q2.size;have Q2:=hid q2;clear ho2 hb2)
    | (at_builtin;refine app_list elStr rfl _ _ rfl W.heap.size _ (nk+2) (strCells (⟨#[111,114]⟩ :: wOpen :: kidW kids k)) rfl (own_keep OWN.out Q2.out) a2 tw.length c2 (strCells tw) rfl (vw_of_own HO2.out) (own_nil HO2.out) (by simp) (oneC_str _) (by omega) (by omega) ?_;intro v4 w4 ho4 hg4 _))
   go_roundw
   case rel =>
    refine ⟨k+1,by omega,by go_num,own_len ho4 ?_ ?_,?_⟩
    ·rw [HKW.out,List.length_append,HNK.out];omega
    ·rw [HKW.out];simp [strCells]
    ·exact below_app (own_keep OWN.out Q2.out) (btr HB.out Q2.out) hg4
   case measure=>simp [intOf];omega
  ·obtain rfl:k=n:=by omega
   have hsz:=HS.out
   obtain ⟨nk,hnk⟩:∃ nk,(kidW kids k).length=nk:=⟨_,rfl⟩
   rw [hnk] at OWN hlk ⊢
   have HNK:=hid hnk
   clear hnk HNN
   go_wp2_with (at_builtin;refine app_list elStr rfl _ _ rfl W.heap.size _ (nk+2) (strCells (⟨#[111,114]⟩ :: wOpen :: kidW kids k)) rfl (own_keep OWN.out Bw.out) _ 1 _ [.string wClose] rfl (by first | exact vw_blk (Blk.fresh (by simp)) | exact vw_blk (Blk.fresh (by simp)).drew) (by simp) rfl (by intro u hu;rw [List.mem_singleton.1 hu];rfl) (by omega) (by simp;omega) ?_;intro v4 w4 ho4 hg4 _)
   go_ret
   rw [e0.out]
   refine ⟨_,rfl,own_len (own_base ho4 (by omega)) ?_ ?_,below_app (own_base (own_keep OWN.out Bw.out) (show w.heap.size≤W.heap.size by omega)) (btr BB.out (btr HB.out Bw.out)) hg4⟩
   ·simp [HNK.out]
   ·simp [strCells]
end Go.Proofs.YtancajcelmhnkaaGreatDoor
