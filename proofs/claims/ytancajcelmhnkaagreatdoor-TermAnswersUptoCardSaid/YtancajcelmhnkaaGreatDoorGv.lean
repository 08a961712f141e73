/- term.right at each operation;term.Check. (Printed by gen4/right.py.) -/
import Derived.Test.YtancajcelmhnkaaGreatDoorGm
set_option maxRecDepth 100000
set_option maxHeartbeats 4000000
namespace Go.Proofs.YtancajcelmhnkaaGreatDoor
open Go.RowKit
set_option linter.unusedVariables false
set_option linter.unusedSimpArgs false
structure RtW (w:World) (op num more:Int) (a:Option Addr) (n c:Nat) (d:Int) (W:World):Prop where
 tm:Blk W w.heap.size 24 #[.int .i64 op,.int .i64 num,.int .i64 more,.slice a n c]
 dp:Blk W (w.heap.size+1) 3 #[.int .i64 d]
 below:Below w.heap.size w W
theorem RtW.start (w:World) (op num more:Int) (a:Option Addr) (n c:Nat) (d:Int):RtW w op num more a n c d ((w.alloc (.cells #[.int .i64 op,.int .i64 num,.int .i64 more,.slice a n c] 24)).alloc (.cells #[.int .i64 d] 3)) :=
 ⟨(Blk.new w _ _).alloc _,Blk.fresh (by simp),Bw.out⟩
theorem RtW.beh {w:World} {op num more:Int} {a:Option Addr} {n c:Nat} {d:Int} {W W':World} (h:RtW w op num more a n c d W) (hb:Below W.heap.size W W'):RtW w op num more a n c d W':=⟨h.tm.below hb,h.dp.below hb,btr h.below hb⟩
def KidsAt (w:World) (a:Option Addr) (n c:Nat) (d:Int) (b:Bool):Prop :=
 ∀ W bd,Below w.heap.size w W→Blk W bd 3 #[.int .i64 d]→Calls Tryz.prog 121 #[.slice a n c,.func (.func 122) #[] #[.pointer (some ⟨bd,0,none⟩)]] W fun e w'=>e=.returned (.bool b)∧Below W.heap.size W w'
theorem mark_in {m:Int} (h:oneMark m=true):1≤m∧m≤16:=by
 unfold oneMark at h
 have:=of_decide_eq_true h
 omega
theorem right_1 (num more:Int) (a:Option Addr) (n c:Nat) (d:Nat) (b:Bool) (w:World) (hn:n≤39) (hd:1≤d∧d≤8) (hc:KidsAt w a n c d b) :
  Calls Tryz.prog 78 #[.agg #[.int .i64 1,.int .i64 num,.int .i64 more,.slice a n c],.int .i64 d] w fun e w'=>e=.returned (.bool (formB 1 num more n && !b))∧Below w.heap.size w w':=by
 have A:=RtW.start w 1 num more a n c d
 obtain ⟨W,hW⟩:∃ W,(w.alloc (.cells #[.int .i64 1,.int .i64 num,.int .i64 more,.slice a n c] 24)).alloc (.cells #[.int .i64 d] 3)=W:=⟨_,rfl⟩
 rw [hW] at A
 have q0:W.cell? ⟨w.heap.size,0,none⟩=some (.int .i64 1):=A.tm.cell 0
 have HA:=hid A
 clear A
 have HC:=hid hc
 clear hc
 have HLM:RowKit.Hid (∀ W,Calls Tryz.prog 118 #[.int .i64 1] W fun e w'=>e=.returned (.tuple #[.int .i64 0,.int .i64 0,.bool false])∧Below W.heap.size W w'):=fun W=>limits_any 1 W
 have HKL:RowKit.Hid (∀ W,Calls Tryz.prog 119 #[.int .i64 1] W fun e w'=>e=.returned (.tuple #[.int .i64 0,.int .i64 0])∧Below W.heap.size W w'):=fun W=>kids_any 1 W
 have HS:=hid fun W=>single_any more W
 have HSB:=hid (rfl:(0:Nat)=0)
 obtain ⟨d1,d2⟩:=hd
 have hd0:((d:Int) == 0)=false:=by simp;omega
 go_enter Tryz.func78,Tryz.ntmps78
 go_wp2_with (first
   | (go_at_call 118;refine (HLM.out _).mono ?_;rintro e w1 ⟨rfl,hb1⟩;have A1:=hid (HA.out.beh hb1);have p0:w1.cell? ⟨w.heap.size,0,none⟩=some (.int .i64 1):=A1.out.tm.cell 0;have p1:w1.cell? ⟨w.heap.size,1,none⟩=some (.int .i64 num):=A1.out.tm.cell 1;have p2:w1.cell? ⟨w.heap.size,2,none⟩=some (.int .i64 more):=A1.out.tm.cell 2;have p3:w1.cell? ⟨w.heap.size,3,none⟩=some (.slice a n c):=A1.out.tm.cell 3;have pd:w1.cell? ⟨w.heap.size+1,0,none⟩=some (.int .i64 d):=A1.out.dp.cell 0)
   | (go_at_call 119;refine (HKL.out _).mono ?_;rintro e w2 ⟨rfl,hb2⟩;have A2:=hid (A1.out.beh hb2);have p0:w2.cell? ⟨w.heap.size,0,none⟩=some (.int .i64 1):=A2.out.tm.cell 0;have p1:w2.cell? ⟨w.heap.size,1,none⟩=some (.int .i64 num):=A2.out.tm.cell 1;have p2:w2.cell? ⟨w.heap.size,2,none⟩=some (.int .i64 more):=A2.out.tm.cell 2;have p3:w2.cell? ⟨w.heap.size,3,none⟩=some (.slice a n c):=A2.out.tm.cell 3;have pd:w2.cell? ⟨w.heap.size+1,0,none⟩=some (.int .i64 d):=A2.out.dp.cell 0)
   | (go_at_call 120;refine (HS.out _).mono ?_;rintro e w3 ⟨rfl,hb3⟩;have A3:=hid (A2.out.beh hb3);have p0:w3.cell? ⟨w.heap.size,0,none⟩=some (.int .i64 1):=A3.out.tm.cell 0;have p1:w3.cell? ⟨w.heap.size,1,none⟩=some (.int .i64 num):=A3.out.tm.cell 1;have p2:w3.cell? ⟨w.heap.size,2,none⟩=some (.int .i64 more):=A3.out.tm.cell 2;have p3:w3.cell? ⟨w.heap.size,3,none⟩=some (.slice a n c):=A3.out.tm.cell 3;have pd:w3.cell? ⟨w.heap.size+1,0,none⟩=some (.int .i64 d):=A3.out.dp.cell 0)
   | (go_at_call 121;first | (refine (HC.out _ _ A3.out.below A3.out.dp).mono ?_;rintro e w4 ⟨rfl,hb4⟩;have A4:=hid (A3.out.beh hb4)) | (refine (HC.out _ _ A2.out.below A2.out.dp).mono ?_;rintro e w4 ⟨rfl,hb4⟩;have A4:=hid (A2.out.beh hb4))))
 all_goals go_ret
 all_goals refine ⟨ret_bool ?_,by (first | exact A4.out.below | exact A3.out.below | exact A2.out.below)⟩
 all_goals (unfold formB;simp [HSB.out, *] <;> (intros;first | omega | (exfalso;simp_all <;> omega) | (simp_all <;> omega)))
theorem right_2 (num more:Int) (a:Option Addr) (n c:Nat) (d:Nat) (b:Bool) (w:World) (hn:n≤39) (hd:1≤d∧d≤8) (hc:KidsAt w a n c d b) :
  Calls Tryz.prog 78 #[.agg #[.int .i64 2,.int .i64 num,.int .i64 more,.slice a n c],.int .i64 d] w fun e w'=>e=.returned (.bool (formB 2 num more n && !b))∧Below w.heap.size w w':=by
 have A:=RtW.start w 2 num more a n c d
 obtain ⟨W,hW⟩:∃ W,(w.alloc (.cells #[.int .i64 2,.int .i64 num,.int .i64 more,.slice a n c] 24)).alloc (.cells #[.int .i64 d] 3)=W:=⟨_,rfl⟩
 rw [hW] at A
 have q0:W.cell? ⟨w.heap.size,0,none⟩=some (.int .i64 2):=A.tm.cell 0
 have HA:=hid A
 clear A
 have HC:=hid hc
 clear hc
 have HLM:RowKit.Hid (∀ W,Calls Tryz.prog 118 #[.int .i64 2] W fun e w'=>e=.returned (.tuple #[.int .i64 0,.int .i64 39,.bool true])∧Below W.heap.size W w'):=fun W=>limits_any 2 W
 have HKL:RowKit.Hid (∀ W,Calls Tryz.prog 119 #[.int .i64 2] W fun e w'=>e=.returned (.tuple #[.int .i64 0,.int .i64 0])∧Below W.heap.size W w'):=fun W=>kids_any 2 W
 have HS:=hid fun W=>single_any more W
 have HSB:=hid (rfl:(0:Nat)=0)
 obtain ⟨d1,d2⟩:=hd
 have hd0:((d:Int) == 0)=false:=by simp;omega
 go_enter Tryz.func78,Tryz.ntmps78
 go_wp2_with (first
   | (go_at_call 118;refine (HLM.out _).mono ?_;rintro e w1 ⟨rfl,hb1⟩;have A1:=hid (HA.out.beh hb1);have p0:w1.cell? ⟨w.heap.size,0,none⟩=some (.int .i64 2):=A1.out.tm.cell 0;have p1:w1.cell? ⟨w.heap.size,1,none⟩=some (.int .i64 num):=A1.out.tm.cell 1;have p2:w1.cell? ⟨w.heap.size,2,none⟩=some (.int .i64 more):=A1.out.tm.cell 2;have p3:w1.cell? ⟨w.heap.size,3,none⟩=some (.slice a n c):=A1.out.tm.cell 3;have pd:w1.cell? ⟨w.heap.size+1,0,none⟩=some (.int .i64 d):=A1.out.dp.cell 0)
   | (go_at_call 119;refine (HKL.out _).mono ?_;rintro e w2 ⟨rfl,hb2⟩;have A2:=hid (A1.out.beh hb2);have p0:w2.cell? ⟨w.heap.size,0,none⟩=some (.int .i64 2):=A2.out.tm.cell 0;have p1:w2.cell? ⟨w.heap.size,1,none⟩=some (.int .i64 num):=A2.out.tm.cell 1;have p2:w2.cell? ⟨w.heap.size,2,none⟩=some (.int .i64 more):=A2.out.tm.cell 2;have p3:w2.cell? ⟨w.heap.size,3,none⟩=some (.slice a n c):=A2.out.tm.cell 3;have pd:w2.cell? ⟨w.heap.size+1,0,none⟩=some (.int .i64 d):=A2.out.dp.cell 0)
   | (go_at_call 120;refine (HS.out _).mono ?_;rintro e w3 ⟨rfl,hb3⟩;have A3:=hid (A2.out.beh hb3);have p0:w3.cell? ⟨w.heap.size,0,none⟩=some (.int .i64 2):=A3.out.tm.cell 0;have p1:w3.cell? ⟨w.heap.size,1,none⟩=some (.int .i64 num):=A3.out.tm.cell 1;have p2:w3.cell? ⟨w.heap.size,2,none⟩=some (.int .i64 more):=A3.out.tm.cell 2;have p3:w3.cell? ⟨w.heap.size,3,none⟩=some (.slice a n c):=A3.out.tm.cell 3;have pd:w3.cell? ⟨w.heap.size+1,0,none⟩=some (.int .i64 d):=A3.out.dp.cell 0)
   | (go_at_call 121;first | (refine (HC.out _ _ A3.out.below A3.out.dp).mono ?_;rintro e w4 ⟨rfl,hb4⟩;have A4:=hid (A3.out.beh hb4)) | (refine (HC.out _ _ A2.out.below A2.out.dp).mono ?_;rintro e w4 ⟨rfl,hb4⟩;have A4:=hid (A2.out.beh hb4))))
 all_goals go_ret
 all_goals refine ⟨ret_bool ?_,by (first | exact A4.out.below | exact A3.out.below | exact A2.out.below)⟩
 all_goals (unfold formB;simp [HSB.out, *] <;> (intros;first | omega | (exfalso;simp_all <;> omega) | (simp_all <;> omega)))
theorem right_3 (num more:Int) (a:Option Addr) (n c:Nat) (d:Nat) (b:Bool) (w:World) (hn:n≤39) (hd:1≤d∧d≤8) (hc:KidsAt w a n c d b) :
  Calls Tryz.prog 78 #[.agg #[.int .i64 3,.int .i64 num,.int .i64 more,.slice a n c],.int .i64 d] w fun e w'=>e=.returned (.bool (formB 3 num more n && !b))∧Below w.heap.size w w':=by
 have A:=RtW.start w 3 num more a n c d
 obtain ⟨W,hW⟩:∃ W,(w.alloc (.cells #[.int .i64 3,.int .i64 num,.int .i64 more,.slice a n c] 24)).alloc (.cells #[.int .i64 d] 3)=W:=⟨_,rfl⟩
 rw [hW] at A
 have q0:W.cell? ⟨w.heap.size,0,none⟩=some (.int .i64 3):=A.tm.cell 0
 have HA:=hid A
 clear A
 have HC:=hid hc
 clear hc
 have HLM:RowKit.Hid (∀ W,Calls Tryz.prog 118 #[.int .i64 3] W fun e w'=>e=.returned (.tuple #[.int .i64 0,.int .i64 40,.bool true])∧Below W.heap.size W w'):=fun W=>limits_any 3 W
 have HKL:RowKit.Hid (∀ W,Calls Tryz.prog 119 #[.int .i64 3] W fun e w'=>e=.returned (.tuple #[.int .i64 0,.int .i64 0])∧Below W.heap.size W w'):=fun W=>kids_any 3 W
 have HS:=hid fun W=>single_any more W
 have HSB:=hid (rfl:(0:Nat)=0)
 obtain ⟨d1,d2⟩:=hd
 have hd0:((d:Int) == 0)=false:=by simp;omega
 go_enter Tryz.func78,Tryz.ntmps78
 go_wp2_with (first
   | (go_at_call 118;refine (HLM.out _).mono ?_;rintro e w1 ⟨rfl,hb1⟩;have A1:=hid (HA.out.beh hb1);have p0:w1.cell? ⟨w.heap.size,0,none⟩=some (.int .i64 3):=A1.out.tm.cell 0;have p1:w1.cell? ⟨w.heap.size,1,none⟩=some (.int .i64 num):=A1.out.tm.cell 1;have p2:w1.cell? ⟨w.heap.size,2,none⟩=some (.int .i64 more):=A1.out.tm.cell 2;have p3:w1.cell? ⟨w.heap.size,3,none⟩=some (.slice a n c):=A1.out.tm.cell 3;have pd:w1.cell? ⟨w.heap.size+1,0,none⟩=some (.int .i64 d):=A1.out.dp.cell 0)
   | (go_at_call 119;refine (HKL.out _).mono ?_;rintro e w2 ⟨rfl,hb2⟩;have A2:=hid (A1.out.beh hb2);have p0:w2.cell? ⟨w.heap.size,0,none⟩=some (.int .i64 3):=A2.out.tm.cell 0;have p1:w2.cell? ⟨w.heap.size,1,none⟩=some (.int .i64 num):=A2.out.tm.cell 1;have p2:w2.cell? ⟨w.heap.size,2,none⟩=some (.int .i64 more):=A2.out.tm.cell 2;have p3:w2.cell? ⟨w.heap.size,3,none⟩=some (.slice a n c):=A2.out.tm.cell 3;have pd:w2.cell? ⟨w.heap.size+1,0,none⟩=some (.int .i64 d):=A2.out.dp.cell 0)
   | (go_at_call 120;refine (HS.out _).mono ?_;rintro e w3 ⟨rfl,hb3⟩;have A3:=hid (A2.out.beh hb3);have p0:w3.cell? ⟨w.heap.size,0,none⟩=some (.int .i64 3):=A3.out.tm.cell 0;have p1:w3.cell? ⟨w.heap.size,1,none⟩=some (.int .i64 num):=A3.out.tm.cell 1;have p2:w3.cell? ⟨w.heap.size,2,none⟩=some (.int .i64 more):=A3.out.tm.cell 2;have p3:w3.cell? ⟨w.heap.size,3,none⟩=some (.slice a n c):=A3.out.tm.cell 3;have pd:w3.cell? ⟨w.heap.size+1,0,none⟩=some (.int .i64 d):=A3.out.dp.cell 0)
   | (go_at_call 121;first | (refine (HC.out _ _ A3.out.below A3.out.dp).mono ?_;rintro e w4 ⟨rfl,hb4⟩;have A4:=hid (A3.out.beh hb4)) | (refine (HC.out _ _ A2.out.below A2.out.dp).mono ?_;rintro e w4 ⟨rfl,hb4⟩;have A4:=hid (A2.out.beh hb4))))
 all_goals go_ret
 all_goals refine ⟨ret_bool ?_,by (first | exact A4.out.below | exact A3.out.below | exact A2.out.below)⟩
 all_goals (unfold formB;simp [HSB.out, *] <;> (intros;first | omega | (exfalso;simp_all <;> omega) | (simp_all <;> omega)))
theorem right_4 (num more:Int) (a:Option Addr) (n c:Nat) (d:Nat) (b:Bool) (w:World) (hn:n≤39) (hd:1≤d∧d≤8) (hc:KidsAt w a n c d b) :
  Calls Tryz.prog 78 #[.agg #[.int .i64 4,.int .i64 num,.int .i64 more,.slice a n c],.int .i64 d] w fun e w'=>e=.returned (.bool (formB 4 num more n && !b))∧Below w.heap.size w w':=by
 have A:=RtW.start w 4 num more a n c d
 obtain ⟨W,hW⟩:∃ W,(w.alloc (.cells #[.int .i64 4,.int .i64 num,.int .i64 more,.slice a n c] 24)).alloc (.cells #[.int .i64 d] 3)=W:=⟨_,rfl⟩
 rw [hW] at A
 have q0:W.cell? ⟨w.heap.size,0,none⟩=some (.int .i64 4):=A.tm.cell 0
 have HA:=hid A
 clear A
 have HC:=hid hc
 clear hc
 have HLM:RowKit.Hid (∀ W,Calls Tryz.prog 118 #[.int .i64 4] W fun e w'=>e=.returned (.tuple #[.int .i64 1,.int .i64 16,.bool true])∧Below W.heap.size W w'):=fun W=>limits_any 4 W
 have HKL:RowKit.Hid (∀ W,Calls Tryz.prog 119 #[.int .i64 4] W fun e w'=>e=.returned (.tuple #[.int .i64 0,.int .i64 0])∧Below W.heap.size W w'):=fun W=>kids_any 4 W
 obtain ⟨sb,hsb⟩:∃ sb,oneMark num=sb:=⟨_,rfl⟩
 have HS:=hid fun W=>single_any num W
 have HSB:=hid hsb
 rw [hsb] at HS
 clear hsb
 obtain ⟨d1,d2⟩:=hd
 have hd0:((d:Int) == 0)=false:=by simp;omega
 cases sb with
 | true =>
  obtain ⟨m1,m2⟩:=mark_in HSB.out
  go_enter Tryz.func78,Tryz.ntmps78
  go_wp2_with (first
    | (go_at_call 118;refine (HLM.out _).mono ?_;rintro e w1 ⟨rfl,hb1⟩;have A1:=hid (HA.out.beh hb1);have p0:w1.cell? ⟨w.heap.size,0,none⟩=some (.int .i64 4):=A1.out.tm.cell 0;have p1:w1.cell? ⟨w.heap.size,1,none⟩=some (.int .i64 num):=A1.out.tm.cell 1;have p2:w1.cell? ⟨w.heap.size,2,none⟩=some (.int .i64 more):=A1.out.tm.cell 2;have p3:w1.cell? ⟨w.heap.size,3,none⟩=some (.slice a n c):=A1.out.tm.cell 3;have pd:w1.cell? ⟨w.heap.size+1,0,none⟩=some (.int .i64 d):=A1.out.dp.cell 0)
    | (go_at_call 119;refine (HKL.out _).mono ?_;rintro e w2 ⟨rfl,hb2⟩;have A2:=hid (A1.out.beh hb2);have p0:w2.cell? ⟨w.heap.size,0,none⟩=some (.int .i64 4):=A2.out.tm.cell 0;have p1:w2.cell? ⟨w.heap.size,1,none⟩=some (.int .i64 num):=A2.out.tm.cell 1;have p2:w2.cell? ⟨w.heap.size,2,none⟩=some (.int .i64 more):=A2.out.tm.cell 2;have p3:w2.cell? ⟨w.heap.size,3,none⟩=some (.slice a n c):=A2.out.tm.cell 3;have pd:w2.cell? ⟨w.heap.size+1,0,none⟩=some (.int .i64 d):=A2.out.dp.cell 0)
    | (go_at_call 120;refine (HS.out _).mono ?_;rintro e w3 ⟨rfl,hb3⟩;have A3:=hid (A2.out.beh hb3);have p0:w3.cell? ⟨w.heap.size,0,none⟩=some (.int .i64 4):=A3.out.tm.cell 0;have p1:w3.cell? ⟨w.heap.size,1,none⟩=some (.int .i64 num):=A3.out.tm.cell 1;have p2:w3.cell? ⟨w.heap.size,2,none⟩=some (.int .i64 more):=A3.out.tm.cell 2;have p3:w3.cell? ⟨w.heap.size,3,none⟩=some (.slice a n c):=A3.out.tm.cell 3;have pd:w3.cell? ⟨w.heap.size+1,0,none⟩=some (.int .i64 d):=A3.out.dp.cell 0)
    | (go_at_call 121;first | (refine (HC.out _ _ A3.out.below A3.out.dp).mono ?_;rintro e w4 ⟨rfl,hb4⟩;have A4:=hid (A3.out.beh hb4)) | (refine (HC.out _ _ A2.out.below A2.out.dp).mono ?_;rintro e w4 ⟨rfl,hb4⟩;have A4:=hid (A2.out.beh hb4))))
  all_goals go_ret
  all_goals refine ⟨ret_bool ?_,by (first | exact A4.out.below | exact A3.out.below | exact A2.out.below)⟩
  all_goals (unfold formB;simp [HSB.out, *] <;> (intros;first | omega | (exfalso;simp_all <;> omega) | (simp_all <;> omega)))
 | false =>
  go_enter Tryz.func78,Tryz.ntmps78
  go_wp2_with (first
    | (go_at_call 118;refine (HLM.out _).mono ?_;rintro e w1 ⟨rfl,hb1⟩;have A1:=hid (HA.out.beh hb1);have p0:w1.cell? ⟨w.heap.size,0,none⟩=some (.int .i64 4):=A1.out.tm.cell 0;have p1:w1.cell? ⟨w.heap.size,1,none⟩=some (.int .i64 num):=A1.out.tm.cell 1;have p2:w1.cell? ⟨w.heap.size,2,none⟩=some (.int .i64 more):=A1.out.tm.cell 2;have p3:w1.cell? ⟨w.heap.size,3,none⟩=some (.slice a n c):=A1.out.tm.cell 3;have pd:w1.cell? ⟨w.heap.size+1,0,none⟩=some (.int .i64 d):=A1.out.dp.cell 0)
    | (go_at_call 119;refine (HKL.out _).mono ?_;rintro e w2 ⟨rfl,hb2⟩;have A2:=hid (A1.out.beh hb2);have p0:w2.cell? ⟨w.heap.size,0,none⟩=some (.int .i64 4):=A2.out.tm.cell 0;have p1:w2.cell? ⟨w.heap.size,1,none⟩=some (.int .i64 num):=A2.out.tm.cell 1;have p2:w2.cell? ⟨w.heap.size,2,none⟩=some (.int .i64 more):=A2.out.tm.cell 2;have p3:w2.cell? ⟨w.heap.size,3,none⟩=some (.slice a n c):=A2.out.tm.cell 3;have pd:w2.cell? ⟨w.heap.size+1,0,none⟩=some (.int .i64 d):=A2.out.dp.cell 0)
    | (go_at_call 120;refine (HS.out _).mono ?_;rintro e w3 ⟨rfl,hb3⟩;have A3:=hid (A2.out.beh hb3);have p0:w3.cell? ⟨w.heap.size,0,none⟩=some (.int .i64 4):=A3.out.tm.cell 0;have p1:w3.cell? ⟨w.heap.size,1,none⟩=some (.int .i64 num):=A3.out.tm.cell 1;have p2:w3.cell? ⟨w.heap.size,2,none⟩=some (.int .i64 more):=A3.out.tm.cell 2;have p3:w3.cell? ⟨w.heap.size,3,none⟩=some (.slice a n c):=A3.out.tm.cell 3;have pd:w3.cell? ⟨w.heap.size+1,0,none⟩=some (.int .i64 d):=A3.out.dp.cell 0)
    | (go_at_call 121;first | (refine (HC.out _ _ A3.out.below A3.out.dp).mono ?_;rintro e w4 ⟨rfl,hb4⟩;have A4:=hid (A3.out.beh hb4)) | (refine (HC.out _ _ A2.out.below A2.out.dp).mono ?_;rintro e w4 ⟨rfl,hb4⟩;have A4:=hid (A2.out.beh hb4))))
  all_goals go_ret
  all_goals refine ⟨ret_bool ?_,by (first | exact A4.out.below | exact A3.out.below | exact A2.out.below)⟩
  all_goals (unfold formB;simp [HSB.out, *] <;> (intros;first | omega | (exfalso;simp_all <;> omega) | (simp_all <;> omega)))
theorem right_5 (num more:Int) (a:Option Addr) (n c:Nat) (d:Nat) (b:Bool) (w:World) (hn:n≤39) (hd:1≤d∧d≤8) (hc:KidsAt w a n c d b) :
  Calls Tryz.prog 78 #[.agg #[.int .i64 5,.int .i64 num,.int .i64 more,.slice a n c],.int .i64 d] w fun e w'=>e=.returned (.bool (formB 5 num more n && !b))∧Below w.heap.size w w':=by
 have A:=RtW.start w 5 num more a n c d
 obtain ⟨W,hW⟩:∃ W,(w.alloc (.cells #[.int .i64 5,.int .i64 num,.int .i64 more,.slice a n c] 24)).alloc (.cells #[.int .i64 d] 3)=W:=⟨_,rfl⟩
 rw [hW] at A
 have q0:W.cell? ⟨w.heap.size,0,none⟩=some (.int .i64 5):=A.tm.cell 0
 have HA:=hid A
 clear A
 have HC:=hid hc
 clear hc
 have HLM:RowKit.Hid (∀ W,Calls Tryz.prog 118 #[.int .i64 5] W fun e w'=>e=.returned (.tuple #[.int .i64 0,.int .i64 15,.bool true])∧Below W.heap.size W w'):=fun W=>limits_any 5 W
 have HKL:RowKit.Hid (∀ W,Calls Tryz.prog 119 #[.int .i64 5] W fun e w'=>e=.returned (.tuple #[.int .i64 0,.int .i64 0])∧Below W.heap.size W w'):=fun W=>kids_any 5 W
 have HS:=hid fun W=>single_any more W
 have HSB:=hid (rfl:(0:Nat)=0)
 obtain ⟨d1,d2⟩:=hd
 have hd0:((d:Int) == 0)=false:=by simp;omega
 go_enter Tryz.func78,Tryz.ntmps78
 go_wp2_with (first
   | (go_at_call 118;refine (HLM.out _).mono ?_;rintro e w1 ⟨rfl,hb1⟩;have A1:=hid (HA.out.beh hb1);have p0:w1.cell? ⟨w.heap.size,0,none⟩=some (.int .i64 5):=A1.out.tm.cell 0;have p1:w1.cell? ⟨w.heap.size,1,none⟩=some (.int .i64 num):=A1.out.tm.cell 1;have p2:w1.cell? ⟨w.heap.size,2,none⟩=some (.int .i64 more):=A1.out.tm.cell 2;have p3:w1.cell? ⟨w.heap.size,3,none⟩=some (.slice a n c):=A1.out.tm.cell 3;have pd:w1.cell? ⟨w.heap.size+1,0,none⟩=some (.int .i64 d):=A1.out.dp.cell 0)
   | (go_at_call 119;refine (HKL.out _).mono ?_;rintro e w2 ⟨rfl,hb2⟩;have A2:=hid (A1.out.beh hb2);have p0:w2.cell? ⟨w.heap.size,0,none⟩=some (.int .i64 5):=A2.out.tm.cell 0;have p1:w2.cell? ⟨w.heap.size,1,none⟩=some (.int .i64 num):=A2.out.tm.cell 1;have p2:w2.cell? ⟨w.heap.size,2,none⟩=some (.int .i64 more):=A2.out.tm.cell 2;have p3:w2.cell? ⟨w.heap.size,3,none⟩=some (.slice a n c):=A2.out.tm.cell 3;have pd:w2.cell? ⟨w.heap.size+1,0,none⟩=some (.int .i64 d):=A2.out.dp.cell 0)
   | (go_at_call 120;refine (HS.out _).mono ?_;rintro e w3 ⟨rfl,hb3⟩;have A3:=hid (A2.out.beh hb3);have p0:w3.cell? ⟨w.heap.size,0,none⟩=some (.int .i64 5):=A3.out.tm.cell 0;have p1:w3.cell? ⟨w.heap.size,1,none⟩=some (.int .i64 num):=A3.out.tm.cell 1;have p2:w3.cell? ⟨w.heap.size,2,none⟩=some (.int .i64 more):=A3.out.tm.cell 2;have p3:w3.cell? ⟨w.heap.size,3,none⟩=some (.slice a n c):=A3.out.tm.cell 3;have pd:w3.cell? ⟨w.heap.size+1,0,none⟩=some (.int .i64 d):=A3.out.dp.cell 0)
   | (go_at_call 121;first | (refine (HC.out _ _ A3.out.below A3.out.dp).mono ?_;rintro e w4 ⟨rfl,hb4⟩;have A4:=hid (A3.out.beh hb4)) | (refine (HC.out _ _ A2.out.below A2.out.dp).mono ?_;rintro e w4 ⟨rfl,hb4⟩;have A4:=hid (A2.out.beh hb4))))
 all_goals go_ret
 all_goals refine ⟨ret_bool ?_,by (first | exact A4.out.below | exact A3.out.below | exact A2.out.below)⟩
 all_goals (unfold formB;simp [HSB.out, *] <;> (intros;first | omega | (exfalso;simp_all <;> omega) | (simp_all <;> omega)))
theorem right_6 (num more:Int) (a:Option Addr) (n c:Nat) (d:Nat) (b:Bool) (w:World) (hn:n≤39) (hd:1≤d∧d≤8) (hc:KidsAt w a n c d b) :
  Calls Tryz.prog 78 #[.agg #[.int .i64 6,.int .i64 num,.int .i64 more,.slice a n c],.int .i64 d] w fun e w'=>e=.returned (.bool (formB 6 num more n && !b))∧Below w.heap.size w w':=by
 have A:=RtW.start w 6 num more a n c d
 obtain ⟨W,hW⟩:∃ W,(w.alloc (.cells #[.int .i64 6,.int .i64 num,.int .i64 more,.slice a n c] 24)).alloc (.cells #[.int .i64 d] 3)=W:=⟨_,rfl⟩
 rw [hW] at A
 have q0:W.cell? ⟨w.heap.size,0,none⟩=some (.int .i64 6):=A.tm.cell 0
 have HA:=hid A
 clear A
 have HC:=hid hc
 clear hc
 have HLM:RowKit.Hid (∀ W,Calls Tryz.prog 118 #[.int .i64 6] W fun e w'=>e=.returned (.tuple #[.int .i64 2,.int .i64 10,.bool true])∧Below W.heap.size W w'):=fun W=>limits_any 6 W
 have HKL:RowKit.Hid (∀ W,Calls Tryz.prog 119 #[.int .i64 6] W fun e w'=>e=.returned (.tuple #[.int .i64 0,.int .i64 0])∧Below W.heap.size W w'):=fun W=>kids_any 6 W
 have HS:=hid fun W=>single_any more W
 have HSB:=hid (rfl:(0:Nat)=0)
 obtain ⟨d1,d2⟩:=hd
 have hd0:((d:Int) == 0)=false:=by simp;omega
 go_enter Tryz.func78,Tryz.ntmps78
 go_wp2_with (first
   | (go_at_call 118;refine (HLM.out _).mono ?_;rintro e w1 ⟨rfl,hb1⟩;have A1:=hid (HA.out.beh hb1);have p0:w1.cell? ⟨w.heap.size,0,none⟩=some (.int .i64 6):=A1.out.tm.cell 0;have p1:w1.cell? ⟨w.heap.size,1,none⟩=some (.int .i64 num):=A1.out.tm.cell 1;have p2:w1.cell? ⟨w.heap.size,2,none⟩=some (.int .i64 more):=A1.out.tm.cell 2;have p3:w1.cell? ⟨w.heap.size,3,none⟩=some (.slice a n c):=A1.out.tm.cell 3;have pd:w1.cell? ⟨w.heap.size+1,0,none⟩=some (.int .i64 d):=A1.out.dp.cell 0)
   | (go_at_call 119;refine (HKL.out _).mono ?_;rintro e w2 ⟨rfl,hb2⟩;have A2:=hid (A1.out.beh hb2);have p0:w2.cell? ⟨w.heap.size,0,none⟩=some (.int .i64 6):=A2.out.tm.cell 0;have p1:w2.cell? ⟨w.heap.size,1,none⟩=some (.int .i64 num):=A2.out.tm.cell 1;have p2:w2.cell? ⟨w.heap.size,2,none⟩=some (.int .i64 more):=A2.out.tm.cell 2;have p3:w2.cell? ⟨w.heap.size,3,none⟩=some (.slice a n c):=A2.out.tm.cell 3;have pd:w2.cell? ⟨w.heap.size+1,0,none⟩=some (.int .i64 d):=A2.out.dp.cell 0)
   | (go_at_call 120;refine (HS.out _).mono ?_;rintro e w3 ⟨rfl,hb3⟩;have A3:=hid (A2.out.beh hb3);have p0:w3.cell? ⟨w.heap.size,0,none⟩=some (.int .i64 6):=A3.out.tm.cell 0;have p1:w3.cell? ⟨w.heap.size,1,none⟩=some (.int .i64 num):=A3.out.tm.cell 1;have p2:w3.cell? ⟨w.heap.size,2,none⟩=some (.int .i64 more):=A3.out.tm.cell 2;have p3:w3.cell? ⟨w.heap.size,3,none⟩=some (.slice a n c):=A3.out.tm.cell 3;have pd:w3.cell? ⟨w.heap.size+1,0,none⟩=some (.int .i64 d):=A3.out.dp.cell 0)
   | (go_at_call 121;first | (refine (HC.out _ _ A3.out.below A3.out.dp).mono ?_;rintro e w4 ⟨rfl,hb4⟩;have A4:=hid (A3.out.beh hb4)) | (refine (HC.out _ _ A2.out.below A2.out.dp).mono ?_;rintro e w4 ⟨rfl,hb4⟩;have A4:=hid (A2.out.beh hb4))))
 all_goals go_ret
 all_goals refine ⟨ret_bool ?_,by (first | exact A4.out.below | exact A3.out.below | exact A2.out.below)⟩
 all_goals (unfold formB;simp [HSB.out, *] <;> (intros;first | omega | (exfalso;simp_all <;> omega) | (simp_all <;> omega)))
theorem right_7 (num more:Int) (a:Option Addr) (n c:Nat) (d:Nat) (b:Bool) (w:World) (hn:n≤39) (hd:1≤d∧d≤8) (hc:KidsAt w a n c d b) :
  Calls Tryz.prog 78 #[.agg #[.int .i64 7,.int .i64 num,.int .i64 more,.slice a n c],.int .i64 d] w fun e w'=>e=.returned (.bool (formB 7 num more n && !b))∧Below w.heap.size w w':=by
 have A:=RtW.start w 7 num more a n c d
 obtain ⟨W,hW⟩:∃ W,(w.alloc (.cells #[.int .i64 7,.int .i64 num,.int .i64 more,.slice a n c] 24)).alloc (.cells #[.int .i64 d] 3)=W:=⟨_,rfl⟩
 rw [hW] at A
 have q0:W.cell? ⟨w.heap.size,0,none⟩=some (.int .i64 7):=A.tm.cell 0
 have HA:=hid A
 clear A
 have HC:=hid hc
 clear hc
 have HLM:RowKit.Hid (∀ W,Calls Tryz.prog 118 #[.int .i64 7] W fun e w'=>e=.returned (.tuple #[.int .i64 1,.int .i64 10,.bool true])∧Below W.heap.size W w'):=fun W=>limits_any 7 W
 have HKL:RowKit.Hid (∀ W,Calls Tryz.prog 119 #[.int .i64 7] W fun e w'=>e=.returned (.tuple #[.int .i64 0,.int .i64 0])∧Below W.heap.size W w'):=fun W=>kids_any 7 W
 obtain ⟨sb,hsb⟩:∃ sb,oneMark more=sb:=⟨_,rfl⟩
 have HS:=hid fun W=>single_any more W
 have HSB:=hid hsb
 rw [hsb] at HS
 clear hsb
 obtain ⟨d1,d2⟩:=hd
 have hd0:((d:Int) == 0)=false:=by simp;omega
 cases sb with
 | true =>
  go_enter Tryz.func78,Tryz.ntmps78
  go_wp2_with (first
    | (go_at_call 118;refine (HLM.out _).mono ?_;rintro e w1 ⟨rfl,hb1⟩;have A1:=hid (HA.out.beh hb1);have p0:w1.cell? ⟨w.heap.size,0,none⟩=some (.int .i64 7):=A1.out.tm.cell 0;have p1:w1.cell? ⟨w.heap.size,1,none⟩=some (.int .i64 num):=A1.out.tm.cell 1;have p2:w1.cell? ⟨w.heap.size,2,none⟩=some (.int .i64 more):=A1.out.tm.cell 2;have p3:w1.cell? ⟨w.heap.size,3,none⟩=some (.slice a n c):=A1.out.tm.cell 3;have pd:w1.cell? ⟨w.heap.size+1,0,none⟩=some (.int .i64 d):=A1.out.dp.cell 0)
    | (go_at_call 119;refine (HKL.out _).mono ?_;rintro e w2 ⟨rfl,hb2⟩;have A2:=hid (A1.out.beh hb2);have p0:w2.cell? ⟨w.heap.size,0,none⟩=some (.int .i64 7):=A2.out.tm.cell 0;have p1:w2.cell? ⟨w.heap.size,1,none⟩=some (.int .i64 num):=A2.out.tm.cell 1;have p2:w2.cell? ⟨w.heap.size,2,none⟩=some (.int .i64 more):=A2.out.tm.cell 2;have p3:w2.cell? ⟨w.heap.size,3,none⟩=some (.slice a n c):=A2.out.tm.cell 3;have pd:w2.cell? ⟨w.heap.size+1,0,none⟩=some (.int .i64 d):=A2.out.dp.cell 0)
    | (go_at_call 120;refine (HS.out _).mono ?_;rintro e w3 ⟨rfl,hb3⟩;have A3:=hid (A2.out.beh hb3);have p0:w3.cell? ⟨w.heap.size,0,none⟩=some (.int .i64 7):=A3.out.tm.cell 0;have p1:w3.cell? ⟨w.heap.size,1,none⟩=some (.int .i64 num):=A3.out.tm.cell 1;have p2:w3.cell? ⟨w.heap.size,2,none⟩=some (.int .i64 more):=A3.out.tm.cell 2;have p3:w3.cell? ⟨w.heap.size,3,none⟩=some (.slice a n c):=A3.out.tm.cell 3;have pd:w3.cell? ⟨w.heap.size+1,0,none⟩=some (.int .i64 d):=A3.out.dp.cell 0)
    | (go_at_call 121;first | (refine (HC.out _ _ A3.out.below A3.out.dp).mono ?_;rintro e w4 ⟨rfl,hb4⟩;have A4:=hid (A3.out.beh hb4)) | (refine (HC.out _ _ A2.out.below A2.out.dp).mono ?_;rintro e w4 ⟨rfl,hb4⟩;have A4:=hid (A2.out.beh hb4))))
  all_goals go_ret
  all_goals refine ⟨ret_bool ?_,by (first | exact A4.out.below | exact A3.out.below | exact A2.out.below)⟩
  all_goals (unfold formB;simp [HSB.out, *] <;> (intros;first | omega | (exfalso;simp_all <;> omega) | (simp_all <;> omega)))
 | false =>
  go_enter Tryz.func78,Tryz.ntmps78
  go_wp2_with (first
    | (go_at_call 118;refine (HLM.out _).mono ?_;rintro e w1 ⟨rfl,hb1⟩;have A1:=hid (HA.out.beh hb1);have p0:w1.cell? ⟨w.heap.size,0,none⟩=some (.int .i64 7):=A1.out.tm.cell 0;have p1:w1.cell? ⟨w.heap.size,1,none⟩=some (.int .i64 num):=A1.out.tm.cell 1;have p2:w1.cell? ⟨w.heap.size,2,none⟩=some (.int .i64 more):=A1.out.tm.cell 2;have p3:w1.cell? ⟨w.heap.size,3,none⟩=some (.slice a n c):=A1.out.tm.cell 3;have pd:w1.cell? ⟨w.heap.size+1,0,none⟩=some (.int .i64 d):=A1.out.dp.cell 0)
    | (go_at_call 119;refine (HKL.out _).mono ?_;rintro e w2 ⟨rfl,hb2⟩;have A2:=hid (A1.out.beh hb2);have p0:w2.cell? ⟨w.heap.size,0,none⟩=some (.int .i64 7):=A2.out.tm.cell 0;have p1:w2.cell? ⟨w.heap.size,1,none⟩=some (.int .i64 num):=A2.out.tm.cell 1;have p2:w2.cell? ⟨w.heap.size,2,none⟩=some (.int .i64 more):=A2.out.tm.cell 2;have p3:w2.cell? ⟨w.heap.size,3,none⟩=some (.slice a n c):=A2.out.tm.cell 3;have pd:w2.cell? ⟨w.heap.size+1,0,none⟩=some (.int .i64 d):=A2.out.dp.cell 0)
    | (go_at_call 120;refine (HS.out _).mono ?_;rintro e w3 ⟨rfl,hb3⟩;have A3:=hid (A2.out.beh hb3);have p0:w3.cell? ⟨w.heap.size,0,none⟩=some (.int .i64 7):=A3.out.tm.cell 0;have p1:w3.cell? ⟨w.heap.size,1,none⟩=some (.int .i64 num):=A3.out.tm.cell 1;have p2:w3.cell? ⟨w.heap.size,2,none⟩=some (.int .i64 more):=A3.out.tm.cell 2;have p3:w3.cell? ⟨w.heap.size,3,none⟩=some (.slice a n c):=A3.out.tm.cell 3;have pd:w3.cell? ⟨w.heap.size+1,0,none⟩=some (.int .i64 d):=A3.out.dp.cell 0)
    | (go_at_call 121;first | (refine (HC.out _ _ A3.out.below A3.out.dp).mono ?_;rintro e w4 ⟨rfl,hb4⟩;have A4:=hid (A3.out.beh hb4)) | (refine (HC.out _ _ A2.out.below A2.out.dp).mono ?_;rintro e w4 ⟨rfl,hb4⟩;have A4:=hid (A2.out.beh hb4))))
  all_goals go_ret
  all_goals refine ⟨ret_bool ?_,by (first | exact A4.out.below | exact A3.out.below | exact A2.out.below)⟩
  all_goals (unfold formB;simp [HSB.out, *] <;> (intros;first | omega | (exfalso;simp_all <;> omega) | (simp_all <;> omega)))
theorem right_8 (num more:Int) (a:Option Addr) (n c:Nat) (d:Nat) (b:Bool) (w:World) (hn:n≤39) (hd:1≤d∧d≤8) (hc:KidsAt w a n c d b) :
  Calls Tryz.prog 78 #[.agg #[.int .i64 8,.int .i64 num,.int .i64 more,.slice a n c],.int .i64 d] w fun e w'=>e=.returned (.bool (formB 8 num more n && !b))∧Below w.heap.size w w':=by
 have A:=RtW.start w 8 num more a n c d
 obtain ⟨W,hW⟩:∃ W,(w.alloc (.cells #[.int .i64 8,.int .i64 num,.int .i64 more,.slice a n c] 24)).alloc (.cells #[.int .i64 d] 3)=W:=⟨_,rfl⟩
 rw [hW] at A
 have q0:W.cell? ⟨w.heap.size,0,none⟩=some (.int .i64 8):=A.tm.cell 0
 have HA:=hid A
 clear A
 have HC:=hid hc
 clear hc
 have HLM:RowKit.Hid (∀ W,Calls Tryz.prog 118 #[.int .i64 8] W fun e w'=>e=.returned (.tuple #[.int .i64 1,.int .i64 10,.bool true])∧Below W.heap.size W w'):=fun W=>limits_any 8 W
 have HKL:RowKit.Hid (∀ W,Calls Tryz.prog 119 #[.int .i64 8] W fun e w'=>e=.returned (.tuple #[.int .i64 0,.int .i64 0])∧Below W.heap.size W w'):=fun W=>kids_any 8 W
 have HS:=hid fun W=>single_any more W
 have HSB:=hid (rfl:(0:Nat)=0)
 obtain ⟨d1,d2⟩:=hd
 have hd0:((d:Int) == 0)=false:=by simp;omega
 go_enter Tryz.func78,Tryz.ntmps78
 go_wp2_with (first
   | (go_at_call 118;refine (HLM.out _).mono ?_;rintro e w1 ⟨rfl,hb1⟩;have A1:=hid (HA.out.beh hb1);have p0:w1.cell? ⟨w.heap.size,0,none⟩=some (.int .i64 8):=A1.out.tm.cell 0;have p1:w1.cell? ⟨w.heap.size,1,none⟩=some (.int .i64 num):=A1.out.tm.cell 1;have p2:w1.cell? ⟨w.heap.size,2,none⟩=some (.int .i64 more):=A1.out.tm.cell 2;have p3:w1.cell? ⟨w.heap.size,3,none⟩=some (.slice a n c):=A1.out.tm.cell 3;have pd:w1.cell? ⟨w.heap.size+1,0,none⟩=some (.int .i64 d):=A1.out.dp.cell 0)
   | (go_at_call 119;refine (HKL.out _).mono ?_;rintro e w2 ⟨rfl,hb2⟩;have A2:=hid (A1.out.beh hb2);have p0:w2.cell? ⟨w.heap.size,0,none⟩=some (.int .i64 8):=A2.out.tm.cell 0;have p1:w2.cell? ⟨w.heap.size,1,none⟩=some (.int .i64 num):=A2.out.tm.cell 1;have p2:w2.cell? ⟨w.heap.size,2,none⟩=some (.int .i64 more):=A2.out.tm.cell 2;have p3:w2.cell? ⟨w.heap.size,3,none⟩=some (.slice a n c):=A2.out.tm.cell 3;have pd:w2.cell? ⟨w.heap.size+1,0,none⟩=some (.int .i64 d):=A2.out.dp.cell 0)
   | (go_at_call 120;refine (HS.out _).mono ?_;rintro e w3 ⟨rfl,hb3⟩;have A3:=hid (A2.out.beh hb3);have p0:w3.cell? ⟨w.heap.size,0,none⟩=some (.int .i64 8):=A3.out.tm.cell 0;have p1:w3.cell? ⟨w.heap.size,1,none⟩=some (.int .i64 num):=A3.out.tm.cell 1;have p2:w3.cell? ⟨w.heap.size,2,none⟩=some (.int .i64 more):=A3.out.tm.cell 2;have p3:w3.cell? ⟨w.heap.size,3,none⟩=some (.slice a n c):=A3.out.tm.cell 3;have pd:w3.cell? ⟨w.heap.size+1,0,none⟩=some (.int .i64 d):=A3.out.dp.cell 0)
   | (go_at_call 121;first | (refine (HC.out _ _ A3.out.below A3.out.dp).mono ?_;rintro e w4 ⟨rfl,hb4⟩;have A4:=hid (A3.out.beh hb4)) | (refine (HC.out _ _ A2.out.below A2.out.dp).mono ?_;rintro e w4 ⟨rfl,hb4⟩;have A4:=hid (A2.out.beh hb4))))
 all_goals go_ret
 all_goals refine ⟨ret_bool ?_,by (first | exact A4.out.below | exact A3.out.below | exact A2.out.below)⟩
 all_goals (unfold formB;simp [HSB.out, *] <;> (intros;first | omega | (exfalso;simp_all <;> omega) | (simp_all <;> omega)))
theorem right_9 (num more:Int) (a:Option Addr) (n c:Nat) (d:Nat) (b:Bool) (w:World) (hn:n≤39) (hd:1≤d∧d≤8) (hc:KidsAt w a n c d b) :
  Calls Tryz.prog 78 #[.agg #[.int .i64 9,.int .i64 num,.int .i64 more,.slice a n c],.int .i64 d] w fun e w'=>e=.returned (.bool (formB 9 num more n && !b))∧Below w.heap.size w w':=by
 have A:=RtW.start w 9 num more a n c d
 obtain ⟨W,hW⟩:∃ W,(w.alloc (.cells #[.int .i64 9,.int .i64 num,.int .i64 more,.slice a n c] 24)).alloc (.cells #[.int .i64 d] 3)=W:=⟨_,rfl⟩
 rw [hW] at A
 have q0:W.cell? ⟨w.heap.size,0,none⟩=some (.int .i64 9):=A.tm.cell 0
 have HA:=hid A
 clear A
 have HC:=hid hc
 clear hc
 have HLM:RowKit.Hid (∀ W,Calls Tryz.prog 118 #[.int .i64 9] W fun e w'=>e=.returned (.tuple #[.int .i64 0,.int .i64 0,.bool false])∧Below W.heap.size W w'):=fun W=>limits_any 9 W
 have HKL:RowKit.Hid (∀ W,Calls Tryz.prog 119 #[.int .i64 9] W fun e w'=>e=.returned (.tuple #[.int .i64 1,.int .i64 40])∧Below W.heap.size W w'):=fun W=>kids_any 9 W
 have HS:=hid fun W=>single_any more W
 have HSB:=hid (rfl:(0:Nat)=0)
 obtain ⟨d1,d2⟩:=hd
 have hd0:((d:Int) == 0)=false:=by simp;omega
 go_enter Tryz.func78,Tryz.ntmps78
 go_wp2_with (first
   | (go_at_call 118;refine (HLM.out _).mono ?_;rintro e w1 ⟨rfl,hb1⟩;have A1:=hid (HA.out.beh hb1);have p0:w1.cell? ⟨w.heap.size,0,none⟩=some (.int .i64 9):=A1.out.tm.cell 0;have p1:w1.cell? ⟨w.heap.size,1,none⟩=some (.int .i64 num):=A1.out.tm.cell 1;have p2:w1.cell? ⟨w.heap.size,2,none⟩=some (.int .i64 more):=A1.out.tm.cell 2;have p3:w1.cell? ⟨w.heap.size,3,none⟩=some (.slice a n c):=A1.out.tm.cell 3;have pd:w1.cell? ⟨w.heap.size+1,0,none⟩=some (.int .i64 d):=A1.out.dp.cell 0)
   | (go_at_call 119;refine (HKL.out _).mono ?_;rintro e w2 ⟨rfl,hb2⟩;have A2:=hid (A1.out.beh hb2);have p0:w2.cell? ⟨w.heap.size,0,none⟩=some (.int .i64 9):=A2.out.tm.cell 0;have p1:w2.cell? ⟨w.heap.size,1,none⟩=some (.int .i64 num):=A2.out.tm.cell 1;have p2:w2.cell? ⟨w.heap.size,2,none⟩=some (.int .i64 more):=A2.out.tm.cell 2;have p3:w2.cell? ⟨w.heap.size,3,none⟩=some (.slice a n c):=A2.out.tm.cell 3;have pd:w2.cell? ⟨w.heap.size+1,0,none⟩=some (.int .i64 d):=A2.out.dp.cell 0)
   | (go_at_call 120;refine (HS.out _).mono ?_;rintro e w3 ⟨rfl,hb3⟩;have A3:=hid (A2.out.beh hb3);have p0:w3.cell? ⟨w.heap.size,0,none⟩=some (.int .i64 9):=A3.out.tm.cell 0;have p1:w3.cell? ⟨w.heap.size,1,none⟩=some (.int .i64 num):=A3.out.tm.cell 1;have p2:w3.cell? ⟨w.heap.size,2,none⟩=some (.int .i64 more):=A3.out.tm.cell 2;have p3:w3.cell? ⟨w.heap.size,3,none⟩=some (.slice a n c):=A3.out.tm.cell 3;have pd:w3.cell? ⟨w.heap.size+1,0,none⟩=some (.int .i64 d):=A3.out.dp.cell 0)
   | (go_at_call 121;first | (refine (HC.out _ _ A3.out.below A3.out.dp).mono ?_;rintro e w4 ⟨rfl,hb4⟩;have A4:=hid (A3.out.beh hb4)) | (refine (HC.out _ _ A2.out.below A2.out.dp).mono ?_;rintro e w4 ⟨rfl,hb4⟩;have A4:=hid (A2.out.beh hb4))))
 all_goals go_ret
 all_goals refine ⟨ret_bool ?_,by (first | exact A4.out.below | exact A3.out.below | exact A2.out.below)⟩
 all_goals (unfold formB;simp [HSB.out, *] <;> (intros;first | omega | (exfalso;simp_all <;> omega) | (simp_all <;> omega)))
theorem right_10 (num more:Int) (a:Option Addr) (n c:Nat) (d:Nat) (b:Bool) (w:World) (hn:n≤39) (hd:1≤d∧d≤8) (hc:KidsAt w a n c d b) :
  Calls Tryz.prog 78 #[.agg #[.int .i64 10,.int .i64 num,.int .i64 more,.slice a n c],.int .i64 d] w fun e w'=>e=.returned (.bool (formB 10 num more n && !b))∧Below w.heap.size w w':=by
 have A:=RtW.start w 10 num more a n c d
 obtain ⟨W,hW⟩:∃ W,(w.alloc (.cells #[.int .i64 10,.int .i64 num,.int .i64 more,.slice a n c] 24)).alloc (.cells #[.int .i64 d] 3)=W:=⟨_,rfl⟩
 rw [hW] at A
 have q0:W.cell? ⟨w.heap.size,0,none⟩=some (.int .i64 10):=A.tm.cell 0
 have HA:=hid A
 clear A
 have HC:=hid hc
 clear hc
 have HLM:RowKit.Hid (∀ W,Calls Tryz.prog 118 #[.int .i64 10] W fun e w'=>e=.returned (.tuple #[.int .i64 0,.int .i64 0,.bool false])∧Below W.heap.size W w'):=fun W=>limits_any 10 W
 have HKL:RowKit.Hid (∀ W,Calls Tryz.prog 119 #[.int .i64 10] W fun e w'=>e=.returned (.tuple #[.int .i64 1,.int .i64 40])∧Below W.heap.size W w'):=fun W=>kids_any 10 W
 have HS:=hid fun W=>single_any more W
 have HSB:=hid (rfl:(0:Nat)=0)
 obtain ⟨d1,d2⟩:=hd
 have hd0:((d:Int) == 0)=false:=by simp;omega
 go_enter Tryz.func78,Tryz.ntmps78
 go_wp2_with (first
   | (go_at_call 118;refine (HLM.out _).mono ?_;rintro e w1 ⟨rfl,hb1⟩;have A1:=hid (HA.out.beh hb1);have p0:w1.cell? ⟨w.heap.size,0,none⟩=some (.int .i64 10):=A1.out.tm.cell 0;have p1:w1.cell? ⟨w.heap.size,1,none⟩=some (.int .i64 num):=A1.out.tm.cell 1;have p2:w1.cell? ⟨w.heap.size,2,none⟩=some (.int .i64 more):=A1.out.tm.cell 2;have p3:w1.cell? ⟨w.heap.size,3,none⟩=some (.slice a n c):=A1.out.tm.cell 3;have pd:w1.cell? ⟨w.heap.size+1,0,none⟩=some (.int .i64 d):=A1.out.dp.cell 0)
   | (go_at_call 119;refine (HKL.out _).mono ?_;rintro e w2 ⟨rfl,hb2⟩;have A2:=hid (A1.out.beh hb2);have p0:w2.cell? ⟨w.heap.size,0,none⟩=some (.int .i64 10):=A2.out.tm.cell 0;have p1:w2.cell? ⟨w.heap.size,1,none⟩=some (.int .i64 num):=A2.out.tm.cell 1;have p2:w2.cell? ⟨w.heap.size,2,none⟩=some (.int .i64 more):=A2.out.tm.cell 2;have p3:w2.cell? ⟨w.heap.size,3,none⟩=some (.slice a n c):=A2.out.tm.cell 3;have pd:w2.cell? ⟨w.heap.size+1,0,none⟩=some (.int .i64 d):=A2.out.dp.cell 0)
   | (go_at_call 120;refine (HS.out _).mono ?_;rintro e w3 ⟨rfl,hb3⟩;have A3:=hid (A2.out.beh hb3);have p0:w3.cell? ⟨w.heap.size,0,none⟩=some (.int .i64 10):=A3.out.tm.cell 0;have p1:w3.cell? ⟨w.heap.size,1,none⟩=some (.int .i64 num):=A3.out.tm.cell 1;have p2:w3.cell? ⟨w.heap.size,2,none⟩=some (.int .i64 more):=A3.out.tm.cell 2;have p3:w3.cell? ⟨w.heap.size,3,none⟩=some (.slice a n c):=A3.out.tm.cell 3;have pd:w3.cell? ⟨w.heap.size+1,0,none⟩=some (.int .i64 d):=A3.out.dp.cell 0)
   | (go_at_call 121;first | (refine (HC.out _ _ A3.out.below A3.out.dp).mono ?_;rintro e w4 ⟨rfl,hb4⟩;have A4:=hid (A3.out.beh hb4)) | (refine (HC.out _ _ A2.out.below A2.out.dp).mono ?_;rintro e w4 ⟨rfl,hb4⟩;have A4:=hid (A2.out.beh hb4))))
 all_goals go_ret
 all_goals refine ⟨ret_bool ?_,by (first | exact A4.out.below | exact A3.out.below | exact A2.out.below)⟩
 all_goals (unfold formB;simp [HSB.out, *] <;> (intros;first | omega | (exfalso;simp_all <;> omega) | (simp_all <;> omega)))
theorem right_11 (num more:Int) (a:Option Addr) (n c:Nat) (d:Nat) (b:Bool) (w:World) (hn:n≤39) (hd:1≤d∧d≤8) (hc:KidsAt w a n c d b) :
  Calls Tryz.prog 78 #[.agg #[.int .i64 11,.int .i64 num,.int .i64 more,.slice a n c],.int .i64 d] w fun e w'=>e=.returned (.bool (formB 11 num more n && !b))∧Below w.heap.size w w':=by
 have A:=RtW.start w 11 num more a n c d
 obtain ⟨W,hW⟩:∃ W,(w.alloc (.cells #[.int .i64 11,.int .i64 num,.int .i64 more,.slice a n c] 24)).alloc (.cells #[.int .i64 d] 3)=W:=⟨_,rfl⟩
 rw [hW] at A
 have q0:W.cell? ⟨w.heap.size,0,none⟩=some (.int .i64 11):=A.tm.cell 0
 have HA:=hid A
 clear A
 have HC:=hid hc
 clear hc
 have HLM:RowKit.Hid (∀ W,Calls Tryz.prog 118 #[.int .i64 11] W fun e w'=>e=.returned (.tuple #[.int .i64 0,.int .i64 0,.bool false])∧Below W.heap.size W w'):=fun W=>limits_any 11 W
 have HKL:RowKit.Hid (∀ W,Calls Tryz.prog 119 #[.int .i64 11] W fun e w'=>e=.returned (.tuple #[.int .i64 1,.int .i64 1])∧Below W.heap.size W w'):=fun W=>kids_any 11 W
 have HS:=hid fun W=>single_any more W
 have HSB:=hid (rfl:(0:Nat)=0)
 obtain ⟨d1,d2⟩:=hd
 have hd0:((d:Int) == 0)=false:=by simp;omega
 go_enter Tryz.func78,Tryz.ntmps78
 go_wp2_with (first
   | (go_at_call 118;refine (HLM.out _).mono ?_;rintro e w1 ⟨rfl,hb1⟩;have A1:=hid (HA.out.beh hb1);have p0:w1.cell? ⟨w.heap.size,0,none⟩=some (.int .i64 11):=A1.out.tm.cell 0;have p1:w1.cell? ⟨w.heap.size,1,none⟩=some (.int .i64 num):=A1.out.tm.cell 1;have p2:w1.cell? ⟨w.heap.size,2,none⟩=some (.int .i64 more):=A1.out.tm.cell 2;have p3:w1.cell? ⟨w.heap.size,3,none⟩=some (.slice a n c):=A1.out.tm.cell 3;have pd:w1.cell? ⟨w.heap.size+1,0,none⟩=some (.int .i64 d):=A1.out.dp.cell 0)
   | (go_at_call 119;refine (HKL.out _).mono ?_;rintro e w2 ⟨rfl,hb2⟩;have A2:=hid (A1.out.beh hb2);have p0:w2.cell? ⟨w.heap.size,0,none⟩=some (.int .i64 11):=A2.out.tm.cell 0;have p1:w2.cell? ⟨w.heap.size,1,none⟩=some (.int .i64 num):=A2.out.tm.cell 1;have p2:w2.cell? ⟨w.heap.size,2,none⟩=some (.int .i64 more):=A2.out.tm.cell 2;have p3:w2.cell? ⟨w.heap.size,3,none⟩=some (.slice a n c):=A2.out.tm.cell 3;have pd:w2.cell? ⟨w.heap.size+1,0,none⟩=some (.int .i64 d):=A2.out.dp.cell 0)
   | (go_at_call 120;refine (HS.out _).mono ?_;rintro e w3 ⟨rfl,hb3⟩;have A3:=hid (A2.out.beh hb3);have p0:w3.cell? ⟨w.heap.size,0,none⟩=some (.int .i64 11):=A3.out.tm.cell 0;have p1:w3.cell? ⟨w.heap.size,1,none⟩=some (.int .i64 num):=A3.out.tm.cell 1;have p2:w3.cell? ⟨w.heap.size,2,none⟩=some (.int .i64 more):=A3.out.tm.cell 2;have p3:w3.cell? ⟨w.heap.size,3,none⟩=some (.slice a n c):=A3.out.tm.cell 3;have pd:w3.cell? ⟨w.heap.size+1,0,none⟩=some (.int .i64 d):=A3.out.dp.cell 0)
   | (go_at_call 121;first | (refine (HC.out _ _ A3.out.below A3.out.dp).mono ?_;rintro e w4 ⟨rfl,hb4⟩;have A4:=hid (A3.out.beh hb4)) | (refine (HC.out _ _ A2.out.below A2.out.dp).mono ?_;rintro e w4 ⟨rfl,hb4⟩;have A4:=hid (A2.out.beh hb4))))
 all_goals go_ret
 all_goals refine ⟨ret_bool ?_,by (first | exact A4.out.below | exact A3.out.below | exact A2.out.below)⟩
 all_goals (unfold formB;simp [HSB.out, *] <;> (intros;first | omega | (exfalso;simp_all <;> omega) | (simp_all <;> omega)))
theorem right_bad (op num more:Int) (a:Option Addr) (n c:Nat) (d:Int) (w:World) (hb:op<1∨11<op∨d=0) :
  Calls Tryz.prog 78 #[.agg #[.int .i64 op,.int .i64 num,.int .i64 more,.slice a n c],.int .i64 d] w fun e w'=>e=.returned (.bool false)∧Below w.heap.size w w':=by
 have A:=RtW.start w op num more a n c d
 obtain ⟨W,hW⟩:∃ W,(w.alloc (.cells #[.int .i64 op,.int .i64 num,.int .i64 more,.slice a n c] 24)).alloc (.cells #[.int .i64 d] 3)=W:=⟨_,rfl⟩
 rw [hW] at A
 have q0:W.cell? ⟨w.heap.size,0,none⟩=some (.int .i64 op):=A.tm.cell 0
 have HA:=hid A
 have HLM:=hid fun W=>limits_any op W
 have HKL:=hid fun W=>kids_any op W
 obtain ⟨⟨l1,l2,l3⟩,hl⟩:∃ l,lims op=l:=⟨_,rfl⟩
 obtain ⟨⟨k1,k2⟩,hk⟩:∃ l,kidl op=l:=⟨_,rfl⟩
 rw [hl] at HLM
 rw [hk] at HKL
 dsimp only at HLM HKL
 clear A hl hk
 by_cases h1:op<1
 ·go_enter Tryz.func78,Tryz.ntmps78
  go_wp2_with (first
   | (go_at_call 118;refine (HLM.out _).mono ?_;rintro e w1 ⟨rfl,hb1⟩;have A1:=hid (HA.out.beh hb1);have p0:w1.cell? ⟨w.heap.size,0,none⟩=some (.int .i64 op):=A1.out.tm.cell 0)
   | (go_at_call 119;refine (HKL.out _).mono ?_;rintro e w2 ⟨rfl,hb2⟩;have A2:=hid (A1.out.beh hb2);have p0:w2.cell? ⟨w.heap.size,0,none⟩=some (.int .i64 op):=A2.out.tm.cell 0;have pd:w2.cell? ⟨w.heap.size+1,0,none⟩=some (.int .i64 d):=A2.out.dp.cell 0))
  go_ret
  exact ⟨rfl,A2.out.below⟩
 ·by_cases h2:11<op
  ·go_enter Tryz.func78,Tryz.ntmps78
   go_wp2_with (first
    | (go_at_call 118;refine (HLM.out _).mono ?_;rintro e w1 ⟨rfl,hb1⟩;have A1:=hid (HA.out.beh hb1);have p0:w1.cell? ⟨w.heap.size,0,none⟩=some (.int .i64 op):=A1.out.tm.cell 0)
    | (go_at_call 119;refine (HKL.out _).mono ?_;rintro e w2 ⟨rfl,hb2⟩;have A2:=hid (A1.out.beh hb2);have p0:w2.cell? ⟨w.heap.size,0,none⟩=some (.int .i64 op):=A2.out.tm.cell 0;have pd:w2.cell? ⟨w.heap.size+1,0,none⟩=some (.int .i64 d):=A2.out.dp.cell 0))
   go_ret
   exact ⟨rfl,A2.out.below⟩
  ·obtain rfl:d=0:=by omega
   clear hb
   go_enter Tryz.func78,Tryz.ntmps78
   go_wp2_with (first
    | (go_at_call 118;refine (HLM.out _).mono ?_;rintro e w1 ⟨rfl,hb1⟩;have A1:=hid (HA.out.beh hb1);have p0:w1.cell? ⟨w.heap.size,0,none⟩=some (.int .i64 op):=A1.out.tm.cell 0)
    | (go_at_call 119;refine (HKL.out _).mono ?_;rintro e w2 ⟨rfl,hb2⟩;have A2:=hid (A1.out.beh hb2);have p0:w2.cell? ⟨w.heap.size,0,none⟩=some (.int .i64 op):=A2.out.tm.cell 0;have pd:w2.cell? ⟨w.heap.size+1,0,none⟩=some (.int .i64 0):=A2.out.dp.cell 0))
   go_ret
   exact ⟨rfl,A2.out.below⟩
theorem right1_any (t:TmM) (bd:Nat) (D:Int) (b:Bool) (w:World) (hB:Blk w bd 3 #[.int .i64 D]) (hD:1≤D∧D≤8)
  (hc:∀ W,Below w.heap.size w W→Calls Tryz.prog 78 #[.agg (encTm t).toArray,.int .i64 (D - 1)] W fun e w'=>e=.returned (.bool b)∧Below W.heap.size W w') :
  Calls Tryz.prog 122 (#[.agg (encTm t).toArray]++#[.pointer (some ⟨bd,0,none⟩)]) w fun e w'=>e=.returned (.bool (!b))∧Below w.heap.size w w':=by
 obtain ⟨op,num,more,a,n,c,kids⟩:=t
 obtain ⟨D1,D2⟩:=hD
 have HC:=hid hc
 have x1:(w.alloc (.cells #[.int .i64 op,.int .i64 num,.int .i64 more,.slice a n c] 24)).cell? ⟨bd,0,none⟩=some (.int .i64 D):=(hB.alloc _).cell 0
 clear hc hB
 show Calls Tryz.prog _ #[.agg #[.int .i64 op,.int .i64 num,.int .i64 more,.slice a n c],.pointer (some ⟨bd,0,none⟩)] w _
 dsimp only [encTm] at HC
 go_enter Tryz.func122,Tryz.ntmps122
 go_wp2_with (first
  | (refine wpList_load_row rfl 24 (.tmp 2) rfl w.heap.size rfl _ #[.int .i64 op,.int .i64 num,.int .i64 more,.slice a n c] _ _ (Blk.new _ _ _) Tryz.underlying24 rfl tmInfo ?_)
  | (go_at_call 78;refine (HC.out _ Bw.out).mono ?_;rintro e w1 ⟨rfl,hb1⟩))
 go_ret
 exact ⟨rfl,btr Bw.out hb1⟩
theorem formB_no {op num more:Int} {n:Nat} (h:op<1∨11<op):formB op num more n=false:=by
 cases hf:formB op num more n with
 | false=>rfl
 | true=>exfalso;unfold formB at hf;rw [Bool.and_eq_true,Bool.and_eq_true] at hf;have h1:=hf.1.1;rw [if_neg (by omega),if_neg (by omega),if_neg (by omega),if_neg (by omega),if_neg (by omega),if_neg (by omega),if_neg (by omega),if_neg (by omega),if_neg (by omega),if_neg (by omega)] at h1;cases h1
theorem right_any (t:TmM):∀ (d:Nat) (w:World),TmOk w t→t.pl.size≤40→d≤8 →
  Calls Tryz.prog 78 #[.agg (encTm t).toArray,.int .i64 d] w fun e w'=>e=.returned (.bool (rightB t.pl d))∧Below w.heap.size w w':=by
 induction t using TmM.ind with
 | h op num more a n c kids ih =>
  intro d w h hs hd
  rw [TmM.pl_mk] at hs ⊢
  rw [Tm.size] at hs
  have hn:n≤39:=by have:=Tm.sizes_len (kids.map TmM.pl);rw [List.length_map,h.len] at this;omega
  show Calls Tryz.prog _ #[.agg #[.int .i64 op,.int .i64 num,.int .i64 more,.slice a n c],.int .i64 d] w _
  cases d with
  | zero =>
   rw [rightB_zero]
   exact right_bad op num more a n c _ w (.inr (.inr rfl))
  | succ d =>
   rw [rightB_mk,List.length_map,h.len]
   have hall:((kids.map TmM.pl).all fun k=>rightB k d) = !(kids.any fun k=>!rightB k.pl d):=by rw [any_not,List.all_map];rfl
   rw [hall]
   have hk:KidsAt w a n c ((d+1:Nat):Int) (kids.any fun k=>!rightB k.pl d):=fun W bd hW hB =>
    cfTm encTm _ _ en_right1 a n c kids (fun k=>!rightB k.pl d) W (h.vw.below hW) h.len h.few (fun x _=>encTm_len x) fun W' hW' x hx=>by
     refine right1_any x bd ((d+1:Nat):Int) (rightB x.pl d) W' (hB.below hW') (by omega) fun W2 hW2=>?_
     have e:((d+1:Nat):Int) - 1=(d:Int):=by omega
     rw [e]
     refine ih x hx d W2 ((h.kid hx).beh (btr (btr hW hW') hW2)) ?_ (by omega)
     have:=Tm.sizes_mem (List.mem_map.2 ⟨x,hx,rfl⟩:x.pl ∈ kids.map TmM.pl)
     omega
   have hd':1≤d+1∧d+1≤8:=by omega
   by_cases h1:op<1∨11<op
   ·rw [formB_no h1]
    exact right_bad op num more a n c _ w (h1.elim .inl fun h=>.inr (.inl h))
   ·have ho:op=1∨op=2∨op=3∨op=4∨op=5∨op=6∨op=7∨op=8∨op=9∨op=10∨op=11:=by omega
    rcases ho with rfl | rfl | rfl | rfl | rfl | rfl | rfl | rfl | rfl | rfl | rfl
    ·exact right_1 num more a n c (d+1) _ w hn hd' hk
    ·exact right_2 num more a n c (d+1) _ w hn hd' hk
    ·exact right_3 num more a n c (d+1) _ w hn hd' hk
    ·exact right_4 num more a n c (d+1) _ w hn hd' hk
    ·exact right_5 num more a n c (d+1) _ w hn hd' hk
    ·exact right_6 num more a n c (d+1) _ w hn hd' hk
    ·exact right_7 num more a n c (d+1) _ w hn hd' hk
    ·exact right_8 num more a n c (d+1) _ w hn hd' hk
    ·exact right_9 num more a n c (d+1) _ w hn hd' hk
    ·exact right_10 num more a n c (d+1) _ w hn hd' hk
    ·exact right_11 num more a n c (d+1) _ w hn hd' hk
def chkT (t:Tm):Int:=if 40<t.size then 1 else if rightB t 8 then 0 else 16
theorem check_any (t:TmM) (w:World) (h:TmOk w t) :
  Calls Tryz.prog 40 #[.agg (encTm t).toArray] w fun e w'=>e=.returned (.int .i64 (chkT t.pl))∧Below w.heap.size w w':=by
 have HC:=hid fun W (hW:Below w.heap.size w W)=>count_any t 40 W (h.beh hW) (by omega)
 have HR:=hid fun W (hW:Below w.heap.size w W) (hs:t.pl.size≤40)=>right_any t 8 W (h.beh hW) hs (by omega)
 clear h
 obtain ⟨op,num,more,a,n,c,kids⟩:=t
 unfold chkT
 obtain ⟨s,hs⟩:∃ s,(TmM.mk op num more a n c kids).pl.size=s:=⟨_,rfl⟩
 obtain ⟨r,hr⟩:∃ r,rightB (TmM.mk op num more a n c kids).pl 8=r:=⟨_,rfl⟩
 rw [hs,hr] at HR
 rw [hs] at HC
 rw [hs,hr]
 clear hs hr
 dsimp only [encTm] at HC HR
 show Calls Tryz.prog _ #[.agg #[.int .i64 op,.int .i64 num,.int .i64 more,.slice a n c]] w _
 have HC':RowKit.Hid (∀ W,Below w.heap.size w W→Calls Tryz.prog 77 #[.agg #[.int .i64 op,.int .i64 num,.int .i64 more,.slice a n c],.int .i64 40] W fun e w'=>e=.returned (.int .i64 ((min s 41:Nat):Int))∧Below W.heap.size W w'):=HC.out
 by_cases h:40<s
 ·rw [if_pos h]
  have e:min s 41=41:=by omega
  rw [e] at HC'
  go_enter Tryz.func40,Tryz.ntmps40
  go_wp2_with (first
   | (refine wpList_load_row rfl 24 (.tmp 1) rfl w.heap.size rfl _ #[.int .i64 op,.int .i64 num,.int .i64 more,.slice a n c] _ _ (Blk.new _ _ _) Tryz.underlying24 rfl tmInfo ?_)
   | (go_at_call 77;refine (HC'.out _ Bw.out).mono ?_;rintro e w1 ⟨rfl,hb1⟩))
  go_ret
  exact ⟨rfl,btr Bw.out hb1⟩
 ·rw [if_neg h]
  have e:min s 41=s:=by omega
  rw [e] at HC'
  have hs40:s≤40:=by omega
  have HRR:RowKit.Hid (∀ W,Below w.heap.size w W→Calls Tryz.prog 78 #[.agg #[.int .i64 op,.int .i64 num,.int .i64 more,.slice a n c],.int .i64 8] W fun e w'=>e=.returned (.bool r)∧Below W.heap.size W w'):=fun W hW=>HR.out W hW hs40
  have h':¬ (40:Int)<(s:Int):=by omega
  cases r with
  | true =>
   go_enter Tryz.func40,Tryz.ntmps40
   go_wp2_with (first
    | (refine wpList_load_row rfl 24 (.tmp 1) rfl w.heap.size rfl _ #[.int .i64 op,.int .i64 num,.int .i64 more,.slice a n c] _ _ (Blk.new _ _ _) Tryz.underlying24 rfl tmInfo ?_)
    | (refine wpList_load_row rfl 24 (.tmp 1) rfl w.heap.size rfl _ #[.int .i64 op,.int .i64 num,.int .i64 more,.slice a n c] _ _ ((Blk.new _ _ _).below hb1) Tryz.underlying24 rfl tmInfo ?_)
    | (go_at_call 77;refine (HC'.out _ Bw.out).mono ?_;rintro e w1 ⟨rfl,hb1⟩)
    | (go_at_call 78;refine (HRR.out _ (btr Bw.out hb1)).mono ?_;rintro e w2 ⟨rfl,hb2⟩))
   go_ret
   exact ⟨rfl,btr (btr Bw.out hb1) hb2⟩
  | false =>
   go_enter Tryz.func40,Tryz.ntmps40
   go_wp2_with (first
    | (refine wpList_load_row rfl 24 (.tmp 1) rfl w.heap.size rfl _ #[.int .i64 op,.int .i64 num,.int .i64 more,.slice a n c] _ _ (Blk.new _ _ _) Tryz.underlying24 rfl tmInfo ?_)
    | (refine wpList_load_row rfl 24 (.tmp 1) rfl w.heap.size rfl _ #[.int .i64 op,.int .i64 num,.int .i64 more,.slice a n c] _ _ ((Blk.new _ _ _).below hb1) Tryz.underlying24 rfl tmInfo ?_)
    | (go_at_call 77;refine (HC'.out _ Bw.out).mono ?_;rintro e w1 ⟨rfl,hb1⟩)
    | (go_at_call 78;refine (HRR.out _ (btr Bw.out hb1)).mono ?_;rintro e w2 ⟨rfl,hb2⟩))
   go_ret
   exact ⟨rfl,btr (btr Bw.out hb1) hb2⟩
end Go.Proofs.YtancajcelmhnkaaGreatDoor
