/- term.right at each operation;term.Check. (Printed by gen4/right.py.) -/
import Derived.Test.YtancajcelmhnkaaGreatDoorGm
set_option maxRecDepth 100000
set_option maxHeartbeats 4000000
namespace Go.Proofs.YtancajcelmhnkaaGreatDoor
open Go.RowKit
set_option linter.unusedVariables false
set_option linter.unusedSimpArgs false
structure RtW (w:World) (op num more:Int) (a:Option Addr) (n c:Nat) (d:Int) (W:World):Prop where
 tm:Blk W w.heap.size 24 #[.int .i64 op,.int .i64 num,.int .i64 more,.slice a n c]
 dp:Blk W (w.heap.size+1) 3 #[.int .i64 d]
 below:Below w.heap.size w W
theorem RtW.start (w:World) (op num more:Int) (a:Option Addr) (n c:Nat) (d:Int):RtW w op num more a n c d ((w.alloc (.cells #[.int .i64 op,.int .i64 num,.int .i64 more,.slice a n c] 24)).alloc (.cells #[.int .i64 d] 3)) :=
 ⟨(Blk.new w _ _).alloc _,Blk.fresh (by simp),Bw.out⟩
theorem RtW.beh {w:World} {op num more:Int} {a:Option Addr} {n c:Nat} {d:Int} {W W':World} (h:RtW w op num more a n c d W) (hb:Below W.heap.size W W'):RtW w op num more a n c d W':=⟨h.tm.below hb,h.dp.below hb,btr h.below hb⟩
def KidsAt (w:World) (a:Option Addr) (n c:Nat) (d:Int) (b:Bool):Prop :=
 ∀ W bd,Below w.heap.size w W→Blk W bd 3 #[.int .i64 d]→Calls Tryz.prog 121 #[.slice a n c,.func (.func 122) #[] #[.pointer (some ⟨bd,0,none⟩)]] W fun e w'=>e=.returned (.bool b)∧Below W.heap.size W w'
theorem mark_in {m:Int} (h:oneMark m=true):1≤m∧m≤16:=by
 unfold oneMark at h
 have:=of_decide_eq_true h
 omega
theorem right_1 (num more:Int) (a:Option Addr) (n c:Nat) (d:Nat) (b:Bool) (w:World) (hn:n≤39) (hd:1≤d∧d≤8) (hc:KidsAt w a n c d b) :
  Calls Tryz.prog 78 #[.agg #[.int .i64 1,.int .i64 num,.int .i64 more,.slice a n c],.int .i64 d] w fun e w'=>e=.returned (.bool (formB 1 num more n && !b))∧Below w.heap.size w w':=by
 have A:=RtW.start w 1 num more a n c d
 obtain ⟨W,hW⟩:∃ W,(w.alloc (.cells #[.int .i64 1,.int .i64 num,.int .i64 more,.slice a n c] 24)).alloc (.cells #[.int .i64 d] 3)=W:=⟨_,rfl⟩
 rw [hW] at A
 have q0:W.cell? ⟨w.heap.size,0,none⟩=some (.int .i64 1):=A.tm.cell 0
 have HA:=hid A
 clear A
 have HC:=hid hc
 clear hc
 have HLM:RowKit.Hid (∀ W,Calls Tryz.prog 118 #[.int .i64 1] W fun e w'=>e=.returned (.tuple #[.int .i64 0,.int .i64 0,.bool false])∧Below W.heap.size W w'):=fun W=>limits_any 1 W
 have HKL:RowKit.Hid (∀ W,Calls Tryz.prog 119 #[.int .i64 1] W fun e w'=>e=.returned (.tuple #[.int .i64 0,.int .i64 0])∧Below W.heap.size W w'):=fun W=>kids_any 1 W
 have HS:=hid fun W=>single_any more W
 have HSB:=hid (rfl:(0:Nat)=0)
 obtain ⟨d1,d2⟩:=hd
 have hd0:((d:Int) == 0)=false:=by simp;omega
 go_enter Tryz.func78,Tryz.ntmps78
 go_wp2_with (first
   | (go_at_call 118;refine (HLM.out _).mono ?_;rintro e w1 ⟨rfl,hb1⟩;have A1:=hid (HA.out.beh hb1);have p0:w1.cell? ⟨w.heap.size,0,none⟩=some (.int .i64 1):=A1.out.tm.cell 0;have p1:w1.cell? ⟨w.heap.size,1,none⟩=some (.int .i64 num):=A1.out.tm.cell 1;have p2:w1.cell? ⟨w.heap.size,2,none⟩=some (.int .i64 more):=A1.out.tm.cell 2;have p3:w1.cell? ⟨w.heap.size,3,none⟩=some (.slice a n c):=A1.out.tm.cell 3;have pd:w1.cell? ⟨w.heap.size+1,0,none⟩=some (.int .i64 d):=A1.out.dp.cell 0)
   | (go_at_call 119;refine (HKL.out _).mono ?_;rintro e w2 ⟨rfl,hb2⟩;have A2:=hid (A1.out.beh hb2);have p0:w2.cell? ⟨w.heap.size,0,none⟩=some (.int .i64 1):=A2.out.tm.cell 0;have p1:w2.cell? ⟨w.heap.size,1,none⟩=some (.int .i64 num):=A2.out.tm.cell 1;have p2:w2.cell? ⟨w.heap.size,2,none⟩=some (.int .i64 more):=A2.out.tm.cell 2;have p3:w2.cell? ⟨w.heap.size,3,none⟩=some (.slice a n c):=A2.out.tm.cell 3;have pd:w2.cell? ⟨w.heap.size+1,0,none⟩=some (.int .i64 d):=A2.out.dp.cell 0)
   | (go_at_call 120;refine (HS.out _).mono ?_;rintro e w3 ⟨rfl,hb3⟩;have A3:=hid (A2.out.beh hb3);have p0:w3.cell? ⟨w.heap.size,0,none⟩=some (.int .i64 1):=A3.out.tm.cell 0;have p1:w3.cell? ⟨w.heap.size,1,none⟩=some (.int .i64 num):=A3.out.tm.cell 1;have p2:w3.cell? ⟨w.heap.size,2,none⟩=some (.int .i64 more):=A3.out.tm.cell 2;have p3:w3.cell? ⟨w.heap.size,3,none⟩=some (.slice a n c):=A3.out.tm.cell 3;have pd:w3.cell? ⟨w.heap.size+1,0,none⟩=some (.int .i64 d):=A3.out.dp.cell 0)
   | (go_at_call 121;first | (refine (HC.out _ _ A3.out.below A3.out.dp).mono ?_;rintro e w4 ⟨rfl,hb4⟩;have A4:=hid (A3.out.beh hb4)) | (refine (HC.out _ _ A2.out.below A2.out.dp).mono ?_;rintro e w4 ⟨rfl,hb4⟩;have A4:=hid (A2.out.beh hb4))))
 all_goals go_ret
 all_goals refine ⟨ret_bool ?_,by (first | exact A4.out.below | exact A3.out.below | exact A2.out.below)⟩
 all_goals (unfold formB;simp [HSB.out, *] <;> (intros;first | omega | (exfalso;simp_all <;> omega) | (simp_all <;> omega)))
theorem right_2 (num more:Int) (a:Option Addr) (n c:Nat) (d:Nat) (b:Bool) (w:World) (hn:n≤39) (hd:1≤d∧d≤8) (hc:KidsAt w a n c d b) :
  Calls Tryz.prog 78 #[.agg #[.int .i64 2,.int .i64 num,.int .i64 more,.slice a n c],.int .i64 d] w fun e w'=>e=.returned (.bool (formB 2 num more n && !b))∧Below w.heap.size w w':=by
 have A:=RtW.start w 2 num more a n c d
 obtain ⟨W,hW⟩:∃ W,(w.alloc (.cells #[.int .i64 2,.int .i64 num,.int .i64 more,.slice a n c] 24)).alloc (.cells #[.int .i64 d] 3)=W:=⟨_,rfl⟩
 rw [hW] at A
 have q0:W.cell? ⟨w.heap.size,0,none⟩=some (.int .i64 2):=A.tm.cell 0
 have HA:=hid A
 clear A
 have HC:=hid hc
 clear hc
 have HLM:RowKit.Hid (∀ W,Calls Tryz.prog 118 #[.int .i64 2] W fun e w'=>e=.returned (.tuple #[.int .i64 0,.int .i64 39,.bool true])∧Below W.heap.size W w'):=fun W=>limits_any 2 W
 have HKL:RowKit.Hid (∀ W,Calls Tryz.prog 119 #[.int .i64 2] W fun e w'=>e=.returned (.tuple #[.int .i64 0,.int .i64 0])∧Below W.heap.size W w'):=fun W=>kids_any 2 W
 have HS:=hid fun W=>single_any more W
 have HSB:=hid (rfl:(0:Nat)=0)
 obtain ⟨d1,d2⟩:=hd
 have hd0:((d:Int) == 0)=false:=by simp;omega
 go_enter Tryz.func78,Tryz.ntmps78
 go_wp2_with (first
   | (go_at_call 118;refine (HLM.out _).mono ?_;rintro e w1 ⟨rfl,hb1⟩;have A1:=hid (HA.out.beh hb1);have p0:w1.cell? ⟨w.heap.size,0,none⟩=some (.int .i64 2):=A1.out.tm.cell 0;have p1:w1.cell? ⟨w.heap.size,1,none⟩=some (.int .i64 num):=A1.out.tm.cell 1;have p2:w1.cell? ⟨w.heap.size,2,none⟩=some (.int .i64 more):=A1.out.tm.cell 2;have p3:w1.cell? ⟨w.heap.size,3,none⟩=some (.slice a n c):=A1.out.tm.cell 3;have pd:w1.cell? ⟨w.heap.size+1,0,none⟩=some (.int .i64 d):=A1.out.dp.cell 0)
   | (go_at_call 119;refine (HKL.out _).mono ?_;rintro e w2 ⟨rfl,hb2⟩;have A2:=hid (A1.out.beh hb2);have p0:w2.cell? ⟨w.heap.size,0,none⟩=some (.int .i64 2):=A2.out.tm.cell 0;have p1:w2.cell? ⟨w.heap.size,1,none⟩=some (.int .i64 num):=A2.out.tm.cell 1;have p2:w2.cell? ⟨w.heap.size,2,none⟩=some (.int .i64 more):=A2.out.tm.cell 2;have p3:w2.cell? ⟨w.heap.size,3,none⟩=some (.slice a n c):=A2.out.tm.cell 3;have pd:w2.cell? ⟨w.heap.size+1,0,none⟩=some (.int .i64 d):=A2.out.dp.cell 0)
   | (go_at_call 120;refine (HS.out _).mono ?_;rintro e w3 ⟨rfl,hb3⟩;have A3:=hid (A2.out.beh hb3);have p0:w3.cell? ⟨w.heap.size,0,none⟩=some (.int .i64 2):=A3.out.tm.cell 0;have p1:w3.cell? ⟨w.heap.size,1,none⟩=some (.int .i64 num):=A3.out.tm.cell 1;have p2:w3.cell? ⟨w.heap.size,2,none⟩=some (.int .i64 more):=A3.out.tm.cell 2;have p3:w3.cell? ⟨w.heap.size,3,none⟩=some (.slice a n c):=A3.out.tm.cell 3;have pd:w3.cell? ⟨w.heap.size+1,0,none⟩=some (.int .i64 d):=A3.out.dp.cell 0)
   | (go_at_call 121;first | (refine (HC.out _ _ A3.out.below A3.out.dp).mono ?_;rintro e w4 ⟨rfl,hb4⟩;have A4:=hid (A3.out.beh hb4)) | (refine (HC.out _ _ A2.out.below A2.out.dp).mono ?_;rintro e w4 ⟨rfl,hb4⟩;have A4:=hid (A2.out.beh hb4))))
 all_goals go_ret
 all_goals refine ⟨ret_bool ?_,by (first | exact A4.out.below | exact A3.out.below | exact A2.out.below)⟩
 all_goals (unfold formB;simp [HSB.out, *] <;> (intros;first | omega | (exfalso;simp_all <;> omega) | (simp_all <;> omega)))
theorem right_3 (num more:Int) (a:Option Addr) (n c:Nat) (d:Nat) (b:Bool) (w:World) (hn:n≤39) (hd:1≤d∧d≤8) (hc:KidsAt w a n c d b) :
  Calls Tryz.prog 78 #[.agg #[.int .i64 3,.int .i64 num,.int .i64 more,.slice a n c],.int .i64 d] w fun e w'=>e=.returned (.bool (formB 3 num more n && !b))∧Below w.heap.size w w':=by
 have A:=RtW.start w 3 num more a n c d
 obtain ⟨W,hW⟩:∃ W,(w.alloc (.cells #[.int .i64 3,.int .i64 num,.int .i64 more,.slice a n c] 24)).alloc (.cells #[.int .i64 d] 3)=W:=⟨_,rfl⟩
 rw [hW] at A
 have q0:W.cell? ⟨w.heap.size,0,none⟩=some (.int .i64 3):=A.tm.cell 0
 have HA:=hid A
 clear A
 have HC:=hid hc
 clear hc
 have HLM:RowKit.Hid (∀ W,Calls Tryz.prog 118 #[.int .i64 3] W fun e w'=>e=.returned (.tuple #[.int .i64 0,.int .i64 40,.bool true])∧Below W.heap.size W w'):=fun W=>limits_any 3 W
 have HKL:RowKit.Hid (∀ W,Calls Tryz.prog 119 #[.int .i64 3] W fun e w'=>e=.returned (.tuple #[.int .i64 0,.int .i64 0])∧Below W.heap.size W w'):=fun W=>kids_any 3 W
 have HS:=hid fun W=>single_any more W
 have HSB:=hid (rfl:(0:Nat)=0)
 obtain ⟨d1,d2⟩:=hd
 have hd0:((d:Int) == 0)=false:=by simp;omega
 go_enter Tryz.func78,Tryz.ntmps78
 go_wp2_with (first
   | (go_at_call 118;refine (HLM.out _).mono ?_;rintro e w1 ⟨rfl,hb1⟩;have A1:=hid (HA.out.beh hb1);have p0:w1.cell? ⟨w.heap.size,0,none⟩=some (.int .i64 3):=A1.out.tm.cell 0;have p1:w1.cell? ⟨w.heap.size,1,none⟩=some (.int .i64 num):=A1.out.tm.cell 1;have p2:w1.cell? ⟨w.heap.size,2,none⟩=some (.int .i64 more):=A1.out.tm.cell 2;have p3:w1.cell? ⟨w.heap.size,3,none⟩=some (.slice a n c):=A1.out.tm.cell 3;have pd:w1.cell? ⟨w.heap.size+1,0,none⟩=some (.int .i64 d):=A1.out.dp.cell 0)
   | (go_at_call 119;refine (HKL.out _).mono ?_;rintro e w2 ⟨rfl,hb2⟩;have A2:=hid (A1.out.beh hb2);have p0:w2.cell? ⟨w.heap.size,0,none⟩=some (.int .i64 3):=A2.out.tm.cell 0;have p1:w2.cell? ⟨w.heap.size,1,none⟩=some (.int .i64 num):=A2.out.tm.cell 1;have p2:w2.cell? ⟨w.heap.size,2,none⟩=some (.int .i64 more):=A2.out.tm.cell 2;have p3:w2.cell? ⟨w.heap.size,3,none⟩=some (.slice a n c):=A2.out.tm.cell 3;have pd:w2.cell? ⟨w.heap.size+1,0,none⟩=some (.int .i64 d):=A2.out.dp.cell 0)
   | (go_at_call 120;refine (HS.out _).mono ?_;rintro e w3 ⟨rfl,hb3⟩;have A3:=hid (A2.out.beh hb3);have p0:w3.cell? ⟨w.heap.size,0,none⟩=some (.int .i64 3):=A3.out.tm.cell 0;have p1:w3.cell? ⟨w.heap.size,1,none⟩=some (.int .i64 num):=A3.out.tm.cell 1;have p2:w3.cell? ⟨w.heap.size,2,none⟩=some (.int .i64 more):=A3.out.tm.cell 2;have p3:w3.cell? ⟨w.heap.size,3,none⟩=some (.slice a n c):=A3.out.tm.cell 3;have pd:w3.cell? ⟨w.heap.size+1,0,none⟩=some (.int .i64 d):=A3.out.dp.cell 0)
   | (go_at_call 121;first | (refine (HC.out _ _ A3.out.below A3.out.dp).mono ?_;rintro e w4 ⟨rfl,hb4⟩;have A4:=hid (A3.out.beh hb4)) | (refine (HC.out _ _ A2.out.below A2.out.dp).mono ?_;rintro e w4 ⟨rfl,hb4⟩;have A4:=hid (A2.out.beh hb4))))
 all_goals go_ret
 all_goals refine ⟨ret_bool ?_,by (first | exact A4.out.below | exact A3.out.below | exact A2.out.below)⟩
 all_goals (unfold formB;simp [HSB.out, *] <;> (intros;first | omega | (exfalso;simp_all <;> omega) | (simp_all <;> omega)))
theorem right_4 (num more:Int) (a:Option Addr) (n c:Nat) (d:Nat) (b:Bool) (w:World) (hn:n≤39) (hd:1≤d∧d≤8) (hc:KidsAt w a n c d b) :
  Calls Tryz.prog 78 #[.agg #[.int .i64 4,.int .i64 num,.int .i64 more,.slice a n c],.int .i64 d] w fun e w'=>e=.returned (.bool (formB 4 num more n && !b))∧Below w.heap.size w w':=by
 have A:=RtW.start w 4 num more a n c d
 obtain ⟨W,hW⟩:∃ W,(w.alloc (.cells #[.int .i64 4,.int .i64 num,.int .i64 more,.slice a n c] 24)).alloc (.cells #[.int .i64 d] 3)=W:=⟨_,rfl⟩
 rw [hW] at A
 have q0:W.cell? ⟨w.heap.size,0,none⟩=some (.int .i64 4):=A.tm.cell 0
 have HA:=hid A
 clear A
 have HC:=hid hc
 clear hc
 have HLM:RowKit.Hid (∀ W,Calls Tryz.prog 118 #[.int .i64 4] W fun e w'=>e=.returned (.tuple #[.int .i64 1,.int .i64 16,.bool true])∧Below W.heap.size W w'):=fun W=>limits_any 4 W
 have HKL:RowKit.Hid (∀ W,Calls Tryz.prog 119 #[.int .i64 4] W fun e w'=>e=.returned (.tuple #[.int .i64 0,.int .i64 0])∧Below W.heap.size W w'):=fun W=>kids_any 4 W
 obtain ⟨sb,hsb⟩:∃ sb,oneMark num=sb:=⟨_,rfl⟩
 have HS:=hid fun W=>single_any num W
 have HSB:=hid hsb
 rw [hsb] at HS
 clear hsb
 obtain ⟨d1,d2⟩:=hd
 have hd0:((d:Int) == 0)=false:=by simp;omega
 cases sb with
 | true =>
  obtain ⟨m1,m2⟩:=mark_in HSB.out
  go_enter Tryz.func78,Tryz.ntmps78
  go_wp2_with (first
    | (go_at_call 118;refine (HLM.out _).mono ?_;rintro e w1 ⟨rfl,hb1⟩;have A1:=hid (HA.out.beh hb1);have p0:w1.cell? ⟨w.heap.size,0,none⟩=some (.int .i64 4):=A1.out.tm.cell 0;have p1:w1.cell? ⟨w.heap.size,1,none⟩=some (.int .i64 num):=A1.out.tm.cell 1;have p2:w1.cell? ⟨w.heap.size,2,none⟩=some (.int .i64 more):=A1.out.tm.cell 2;have p3:w1.cell? ⟨w.heap.size,3,none⟩=some (.slice a n c):=A1.out.tm.cell 3;have pd:w1.cell? ⟨w.heap.size+1,0,none⟩=some (.int .i64 d):=A1.out.dp.cell 0)
    | (go_at_call 119;refine (HKL.out _).mono ?_;rintro e w2 ⟨rfl,hb2⟩;have A2:=hid (A1.out.beh hb2);have p0:w2.cell? ⟨w.heap.size,0,none⟩=some (.int .i64 4):=A2.out.tm.cell 0;have p1:w2.cell? ⟨w.heap.size,1,none⟩=some (.int .i64 num):=A2.out.tm.cell 1;have p2:w2.cell? ⟨w.heap.size,2,none⟩=some (.int .i64 more):=A2.out.tm.cell 2;have p3:w2.cell? ⟨w.heap.size,3,none⟩=some (.slice a n c):=A2.out.tm.cell 3;have pd:w2.cell? ⟨w.heap.size+1,0,none⟩=some (.int .i64 d):=A2.out.dp.cell 0)
    | (go_at_call 120;refine (HS.out _).mono ?_;rintro e w3 ⟨rfl,hb3⟩;have A3:=hid (A2.out.beh hb3);have p0:w3.cell? ⟨w.heap.size,0,none⟩=some (.int .i64 4):=A3.out.tm.cell 0;have p1:w3.cell? ⟨w.heap.size,1,none⟩=some (.int .i64 num):=A3.out.tm.cell 1;have p2:w3.cell? ⟨w.heap.size,2,none⟩=some (.int .i64 more):=A3.out.tm.cell 2;have p3:w3.cell? ⟨w.heap.size,3,none⟩=some (.slice a n c):=A3.out.tm.cell 3;have pd:w3.cell? ⟨w.heap.size+1,0,none⟩=some (.int .i64 d):=A3.out.dp.cell 0)
    | (go_at_call 121;first | (refine (HC.out _ _ A3.out.below A3.out.dp).mono ?_;rintro e w4 ⟨rfl,hb4⟩;have A4:=hid (A3.out.beh hb4)) | (refine (HC.out _ _ A2.out.below A2.out.dp).mono ?_;rintro e w4 ⟨rfl,hb4⟩;have A4:=hid (A2.out.beh hb4))))
  all_goals go_ret
  all_goals refine ⟨ret_bool ?_,by (first | exact A4.out.below | exact A3.out.below | exact A2.out.below)⟩
  all_goals (unfold formB;simp [HSB.out, *] <;> (intros;first | omega | (exfalso;simp_all <;> omega) | (simp_all <;> omega)))
 | false =>
  go_enter Tryz.func78,Tryz.ntmps78
  go_wp2_with (first
    | (go_at_call 118;refine (HLM.out _).mono ?_;rintro e w1 ⟨rfl,hb1⟩;have A1:=hid (HA.out.beh hb1);have p0:w1.cell? ⟨w.heap.size,0,none⟩=some (.int .i64 4):=A1.out.tm.cell 0;have p1:w1.cell? ⟨w.heap.size,1,none⟩=some (.int .i64 num):=A1.out.tm.cell 1;have p2:w1.cell? ⟨w.heap.size,2,none⟩=some (.int .i64 more):=A1.out.tm.cell 2;have p3:w1.cell? ⟨w.heap.size,3,none⟩=some (.slice a n c):=A1.out.tm.cell 3;have pd:w1.cell? ⟨w.heap.size+1,0,none⟩=some (.int .i64 d):=A1.out.dp.cell 0)
    | (go_at_call 119;refine (HKL.out _).mono ?_;rintro e w2 ⟨rfl,hb2⟩;have A2:=hid (A1.out.beh hb2);have p0:w2.cell? ⟨w.heap.size,0,none⟩=some (.int .i64 4):=A2.out.tm.cell 0;have p1:w2.cell? ⟨w.heap.size,1,none⟩=some (.int .i64 num):=A2.out.tm.cell 1;have p2:w2.cell? ⟨w.heap.size,2,none⟩=some (.int .i64 more):=A2.out.tm.cell 2;have p3:w2.cell? ⟨w.heap.size,3,none⟩=some (.slice a n c):=A2.out.tm.cell 3;have pd:w2.cell? ⟨w.heap.size+1,0,none⟩=some (.int .i64 d):=A2.out.dp.cell 0)
    | (go_at_call 120;refine (HS.out _).mono ?_;rintro e w3 ⟨rfl,hb3⟩;have A3:=hid (A2.out.beh hb3);have p0:w3.cell? ⟨w.heap.size,0,none⟩=some (.int .i64 4):=A3.out.tm.cell 0;have p1:w3.cell? ⟨w.heap.size,1,none⟩=some (.int .i64 num):=A3.out.tm.cell 1;have p2:w3.cell? ⟨w.heap.size,2,none⟩=some (.int .i64 more):=A3.out.tm.cell 2;have p3:w3.cell? ⟨w.heap.size,3,none⟩=some (.slice a n c):=A3.out.tm.cell 3;have pd:w3.cell? ⟨w.heap.size+1,0,none⟩=some (.int .i64 d):=A3.out.dp.cell 0)
    | (go_at_call 121;first | (refine (HC.out _ _ A3.out.below A3.out.dp).mono ?_;rintro e w4 ⟨rfl,hb4⟩;have A4:=hid (A3.out.beh hb4)) | (refine (HC.out _ _ A2.out.below A2.out.dp).mono ?_;rintro e w4 ⟨rfl,hb4⟩;have A4:=hid (A2.out.beh hb4))))
  all_goals go_ret
  all_goals refine ⟨ret_bool ?_,by (first | exact A4.out.below | exact A3.out.below | exact A2.out.below)⟩
  all_goals (unfold formB;simp [HSB.out, *] <;> (intros;first | omega | (exfalso;simp_all <;> omega) | (simp_all <;> omega)))
theorem right_5 (num more:Int) (a:Option Addr) (n c:Nat) (d:Nat) (b:Bool) (w:World) (hn:n≤39) (hd:1≤d∧d≤8) (hc:KidsAt w a n c d b) :
  Calls Tryz.prog 78 #[.agg #[.int .i64 5,.int .i64 num,.int .i64 more,.slice a n c],.int .i64 d] w fun e w'=>e=.returned (.bool (formB 5 num more n && !b))∧Below w.heap.size w w':=by
 have A:=RtW.start w 5 num more a n c d
 obtain ⟨W,hW⟩:∃ W,(w.alloc (.cells #[.int .i64 5,.int .i64 num,.int .i64 more,.slice a n c] 24)).alloc (.cells #[.int .i64 d] 3)=W:=⟨_,rfl⟩
 rw [hW] at A
 have q0:W.cell? ⟨w.heap.size,0,none⟩=some (.int .i64 5):=A.tm.cell 0
 have HA:=hid A
 clear A
 have HC:=hid hc
 clear hc
 have HLM:RowKit.Hid (∀ W,Calls Tryz.prog 118 #[.int .i64 5] W fun e w'=>e=.returned (.tuple #[.int .i64 0,.int .i64 15,.bool true])∧Below W.heap.size W w'):=fun W=>limits_any 5 W
 have HKL:RowKit.Hid (∀ W,Calls Tryz.prog 119 #[.int .i64 5] W fun e w'=>e=.returned (.tuple #[.int .i64 0,.int .i64 0])∧Below W.heap.size W w'):=fun W=>kids_any 5 W
 have HS:=hid fun W=>single_any more W
 have HSB:=hid (rfl:(0:Nat)=0)
 obtain ⟨d1,d2⟩:=hd
 have hd0:((d:Int) == 0)=false:=by simp;omega
 go_enter Tryz.func78,Tryz.ntmps78
 go_wp2_with (first
   | (go_at_call 118;refine (HLM.out _).mono ?_;rintro e w1 ⟨rfl,hb1⟩;have A1:=hid (HA.out.beh hb1);have p0:w1.cell? ⟨w.heap.size,0,none⟩=some (.int .i64 5):=A1.out.tm.cell 0;have p1:w1.cell? ⟨w.heap.size,1,none⟩=some (.int .i64 num):=A1.out.tm.cell 1;have p2:w1.cell? ⟨w.heap.size,2,none⟩=some (.int .i64 more):=A1.out.tm.cell 2;have p3:w1.cell? ⟨w.heap.size,3,none⟩=some (.slice a n c):=A1.out.tm.cell 3;have pd:w1.cell? ⟨w.heap.size+1,0,none⟩=some (.int .i64 d):=A1.out.dp.cell 0)
   | (go_at_call 119;refine (HKL.out _).mono ?_;rintro e w2 ⟨rfl,hb2⟩;have A2:=hid (A1.out.beh hb2);have p0:w2.cell? ⟨w.heap.size,0,none⟩=some (.int .i64 5):=A2.out.tm.cell 0;have p1:w2.cell? ⟨w.heap.size,1,none⟩=some (.int .i64 num):=A2.out.tm.cell 1;have p2:w2.cell? ⟨w.heap.size,2,none⟩=some (.int .i64 more):=A2.out.tm.cell 2;have p3:w2.cell? ⟨w.heap.size,3,none⟩=some (.slice a n c):=A2.out.tm.cell 3;have pd:w2.cell? ⟨w.heap.size+1,0,none⟩=some (.int .i64 d):=A2.out.dp.cell 0)
   | (go_at_call 120;refine (HS.out _).mono ?_;rintro e w3 ⟨rfl,hb3⟩;have A3:=hid (A2.out.beh hb3);have p0:w3.cell? ⟨w.heap.size,0,none⟩=some (.int .i64 5):=A3.out.tm.cell 0;have p1:w3.cell? ⟨w.heap.size,1,none⟩=some (.int .i64 num):=A3.out.tm.cell 1;have p2:w3.cell? ⟨w.heap.size,2,none⟩=some (.int .i64 more):=A3.out.tm.cell 2;have p3:w3.cell? ⟨w.heap.size,3,none⟩=some (.slice a n c):=A3.out.tm.cell 3;have pd:w3.cell? ⟨w.heap.size+1,0,none⟩=some (.int .i64 d):=A3.out.dp.cell 0)
   | (go_at_call 121;first | (refine (HC.out _ _ A3.out.below A3.out.dp).mono ?_;rintro e w4 ⟨rfl,hb4⟩;have A4:=hid (A3.out.beh hb4)) | (refine (HC.out _ _ A2.out.below A2.out.dp).mono ?_;rintro e w4 ⟨rfl,hb4⟩;have A4:=hid (A2.out.beh hb4))))
 all_goals go_ret
 all_goals refine ⟨ret_bool ?_,by (first | exact A4.out.below | exact A3.out.below | exact A2.out.below)⟩
 all_goals (unfold formB;simp [HSB.out, *] <;> (intros;first | omega | (exfalso;simp_all <;> omega) | (simp_all <;> omega)))
theorem right_6 (num more:Int) (a:Option Addr) (n c:Nat) (d:Nat) (b:Bool) (w:World) (hn:n≤39) (hd:1≤d∧d≤8) (hc:KidsAt w a n c d b) :
  Calls Tryz.prog 78 #[.agg #[.int .i64 6,.int .i64 num,.int .i64 more,.slice a n c],.int .i64 d] w fun e w'=>e=.returned (.bool (formB 6 num more n && !b))∧Below w.heap.size w w':=by
 have A:=RtW.start w 6 num more a n c d
 obtain ⟨W,hW⟩:∃ W,(w.alloc (.cells #[.int .i64 6,.int .i64 num,.int .i64 more,.slice a n c] 24)).alloc (.cells #[.int .i64 d] 3)=W:=⟨_,rfl⟩
 rw [hW] at A
 have q0:W.cell? ⟨w.heap.size,0,none⟩=some (.int .i64 6):=A.tm.cell 0
 have HA:=hid A
 clear A
 have HC:=hid hc
 clear hc
 have HLM:RowKit.Hid (∀ W,Calls Tryz.prog 118 #[.int .i64 6] W fun e w'=>e=.returned (.tuple #[.int .i64 2,.int .i64 10,.bool true])∧Below W.heap.size W w'):=fun W=>limits_any 6 W
 have HKL:RowKit.Hid (∀ W,Calls Tryz.prog 119 #[.int .i64 6] W fun e w'=>e=.returned (.tuple #[.int .i64 0,.int .i64 0])∧Below W.heap.size W w'):=fun W=>kids_any 6 W
 have HS:=hid fun W=>single_any more W
 have HSB:=hid (rfl:(0:Nat)=0)
 obtain ⟨d1,d2⟩:=hd
 have hd0:((d:Int) == 0)=false:=by simp;omega
 go_enter Tryz.func78,Tryz.ntmps78
 go_wp2_with (first
   | (go_at_call 118;refine (HLM.out _).mono ?_;rintro e w1 ⟨rfl,hb1⟩;have A1:=hid (HA.out.beh hb1);have p0:w1.cell? ⟨w.heap.size,0,none⟩=some (.int .i64 6):=A1.out.tm.cell 0;have p1:w1.cell? ⟨w.heap.size,1,none⟩=some (.int .i64 num):=A1.out.tm.cell 1;have p2:w1.cell? ⟨w.heap.size,2,none⟩=some (.int .i64 more):=A1.out.tm.cell 2;have p3:w1.cell? ⟨w.heap.size,3,none⟩=some (.slice a n c):=A1.out.tm.cell 3;have pd:w1.cell? ⟨w.heap.size+1,0,none⟩=some (.int .i64 d):=A1.out.dp.cell 0)
   | (go_at_call 119;refine (HKL.out _).mono ?_;rintro e w2 ⟨rfl,hb2⟩;have A2:=hid (A1.out.beh hb2);have p0:w2.cell? ⟨w.heap.size,0,none⟩=some (.int .i64 6):=A2.out.tm.cell 0;have p1:w2.cell? ⟨w.heap.size,1,none⟩=some (.int .i64 num):=A2.out.tm.cell 1;have p2:w2.cell? ⟨w.heap.size,2,none⟩=some (.int .i64 more):=A2.out.tm.cell 2;have p3:w2.cell? ⟨w.heap.size,3,none⟩=some (.slice a n c):=A2.out.tm.cell 3;have pd:w2.cell? ⟨w.heap.size+1,0,none⟩=some (.int .i64 d):=A2.out.dp.cell 0)
   | (go_at_call 120;refine (HS.out _).mono ?_;rintro e w3 ⟨rfl,hb3⟩;have A3:=hid (A2.out.beh hb3);have p0:w3.cell? ⟨w.heap.size,0,none⟩=some (.int .i64 6):=A3.out.tm.cell 0;have p1:w3.cell? ⟨w.heap.size,1,none⟩=some (.int .i64 num):=A3.out.tm.cell 1;have p2:w3.cell? ⟨w.heap.size,2,none⟩=some (.int .i64 more):=A3.out.tm.cell 2;have p3:w3.cell? ⟨w.heap.size,3,none⟩=some (.slice a n c):=A3.out.tm.cell 3;have pd:w3.cell? ⟨w.heap.size+1,0,none⟩=some (.int .i64 d):=A3.out.dp.cell 0)
   | (go_at_call 121;first | (refine (HC.out _ _ A3.out.below A3.out.dp).mono ?_;rintro e w4 ⟨rfl,hb4⟩;have A4:=hid (A3.out.beh hb4)) | (refine (HC.out _ _ A2.out.below A2.out.dp).mono ?_;rintro e w4 ⟨rfl,hb4⟩;have A4:=hid (A2.out.beh hb4))))
 all_goals go_ret
 all_goals refine ⟨ret_bool ?_,by (first | exact A4.out.below | exact A3.out.below | exact A2.out.below)⟩
 all_goals (unfold formB;simp [HSB.out, *] <;> (intros;first | omega | (exfalso;simp_all <;> omega) | (simp_all <;> omega)))
theorem right_7 (num more:Int) (a:Option Addr) (n c:Nat) (d:Nat) (b:Bool) (w:World) (hn:n≤39) (hd:1≤d∧d≤8) (hc:KidsAt w a n c d b) :
  Calls Tryz.prog 78 #[.agg #[.int .i64 7,.int .i64 num,.int .i64 more,.slice a n c],.int .i64 d] w fun e w'=>e=.returned (.bool (formB 7 num more n && !b))∧Below w.heap.size w w':=by
 have A:=RtW.start w 7 num more a n c d
 obtain ⟨W,hW⟩:∃ W,(w.alloc (.cells #[.int .i64 7,.int .i64 num,.int .i64 more,.slice a n c] 24)).alloc (.cells #[.int .i64 d] 3)=W:=⟨_,rfl⟩
 rw [hW] at A
 have q0:W.cell? ⟨w.heap.size,0,none⟩=some (.int .i64 7):=A.tm.cell 0
 have HA:=hid A
 clear A
 have HC:=hid hc
 clear hc
 have HLM:RowKit.Hid (∀ W,Calls Tryz.prog 118 #[.int .i64 7] W fun e w'=>e=.returned (.tuple #[.int .i64 1,.int .i64 10,.bool true])∧Below W.heap.size W w'):=fun W=>limits_any 7 W
 have HKL:RowKit.Hid (∀ W,Calls Tryz.prog 119 #[.int .i64 7] W fun e w'=>e=.returned (.tuple #[.int .i64 0,.int .i64 0])∧Below W.heap.size W w'):=fun W=>kids_any 7 W
 obtain ⟨sb,hsb⟩:∃ sb,oneMark more=sb:=⟨_,rfl⟩
 have HS:=hid fun W=>single_any more W
 have HSB:=hid hsb
 rw [hsb] at HS
 clear hsb
 obtain ⟨d1,d2⟩:=hd
 have hd0:((d:Int) == 0)=false:=by simp;omega
 cases sb with
 | true =>
  go_enter Tryz.func78,Tryz.ntmps78
  go_wp2_with (first
    | (go_at_call 118;refine (HLM.out _).mono ?_;rintro e w1 ⟨rfl,hb1⟩;have A1:=hid (HA.out.beh hb1);have p0:w1.cell? ⟨w.heap.size,0,none⟩=some (.int .i64 7):=A1.out.tm.cell 0;have p1:w1.cell? ⟨w.heap.size,1,none⟩=some (.int .i64 num):=A1.out.tm.cell 1;have p2:w1.cell? ⟨w.heap.size,2,none⟩=some (.int .i64 more):=A1.out.tm.cell 2;have p3:w1.cell? ⟨w.heap.size,3,none⟩=some (.slice a n c):=A1.out.tm.cell 3;have pd:w1.cell? ⟨w.heap.size+1,0,none⟩=some (.int .i64 d):=A1.out.dp.cell 0)
    | (go_at_call 119;refine (HKL.out _).mono ?_;rintro e w2 ⟨rfl,hb2⟩;have A2:=hid (A1.out.beh hb2);have p0:w2.cell? ⟨w.heap.size,0,none⟩=some (.int .i64 7):=A2.out.tm.cell 0;have p1:w2.cell? ⟨w.heap.size,1,none⟩=some (.int .i64 num):=A2.out.tm.cell 1;have p2:w2.cell? ⟨w.heap.size,2,none⟩=some (.int .i64 more):=A2.out.tm.cell 2;have p3:w2.cell? ⟨w.heap.size,3,none⟩=some (.slice a n c):=A2.out.tm.cell 3;have pd:w2.cell? ⟨w.heap.size+1,0,none⟩=some (.int .i64 d):=A2.out.dp.cell 0)
    | (go_at_call 120;refine (HS.out _).mono ?_;rintro e w3 ⟨rfl,hb3⟩;have A3:=hid (A2.out.beh hb3);have p0:w3.cell? ⟨w.heap.size,0,none⟩=some (.int .i64 7):=A3.out.tm.cell 0;have p1:w3.cell? ⟨w.heap.size,1,none⟩=some (.int .i64 num):=A3.out.tm.cell 1;have p2:w3.cell? ⟨w.heap.size,2,none⟩=some (.int .i64 more):=A3.out.tm.cell 2;have p3:w3.cell? ⟨w.heap.size,3,none⟩=some (.slice a n c):=A3.out.tm.cell 3;have pd:w3.cell? ⟨w.heap.size+1,0,none⟩=some (.int .i64 d):=A3.out.dp.cell 0)
    | (go_at_call 121;first | (refine (HC.out _ _ A3.out.below A3.out.dp).mono ?_;rintro e w4 ⟨rfl,hb4⟩;have A4:=hid (A3.out.beh hb4)) | (refine (HC.out _ _ A2.out.below A2.out.dp).mono ?_;rintro e w4 ⟨rfl,hb4⟩;have A4:=hid (A2.out.beh hb4))))
  all_goals go_ret
  all_goals refine ⟨ret_bool ?_,by (first | exact A4.out.below | exact A3.out.below | exact A2.out.below)⟩
  all_goals (unfold formB;simp [HSB.out, *] <;> (intros;first | omega | (exfalso;simp_all <;> omega) | (simp_all <;> omega)))
 | false =>
  go_enter Tryz.func78,Tryz.ntmps78
  go_wp2_with (first
    | (go_at_call 118;refine (HLM.out _).mono ?_;rintro e w1 ⟨rfl,hb1⟩;have A1:=hid (HA.out.beh hb1);have p0:w1.cell? ⟨w.heap.size,0,none⟩=some (.int .i64 7):=A1.out.tm.cell 0;have p1:w1.cell? ⟨w.heap.size,1,none⟩=some (.int .i64 num):=A1.out.tm.cell 1;have p2:w1.cell? ⟨w.heap.size,2,none⟩=some (.int .i64 more):=A1.out.tm.cell 2;have p3:w1.cell? ⟨w.heap.size,3,none⟩=some (.slice a n c):=A1.out.tm.cell 3;have pd:w1.cell? ⟨w.heap.size+1,0,none⟩=some (.int .i64 d):=A1.out.dp.cell 0)
    | (go_at_call 119;refine (HKL.out _).mono ?_;rintro e w2 ⟨rfl,hb2⟩;have A2:=hid (A1.out.beh hb2);have p0:w2.cell? ⟨w.heap.size,0,none⟩=some (.int .i64 7):=A2.out.tm.cell 0;have p1:w2.cell? ⟨w.heap.size,1,none⟩=some (.int .i64 num):=A2.out.tm.cell 1;have p2:w2.cell? ⟨w.heap.size,2,none⟩=some (.int .i64 more):=A2.out.tm.cell 2;have p3:w2.cell? ⟨w.heap.size,3,none⟩=some (.slice a n c):=A2.out.tm.cell 3;have pd:w2.cell? ⟨w.heap.size+1,0,none⟩=some (.int .i64 d):=A2.out.dp.cell 0)
    | (go_at_call 120;refine (HS.out _).mono ?_;rintro e w3 ⟨rfl,hb3⟩;have A3:=hid (A2.out.beh hb3);have p0:w3.cell? ⟨w.heap.size,0,none⟩=some (.int .i64 7):=A3.out.tm.cell 0;have p1:w3.cell? ⟨w.heap.size,1,none⟩=some (.int .i64 num):=A3.out.tm.cell 1;have p2:w3.cell? ⟨w.heap.size,2,none⟩=some (.int .i64 more):=A3.out.tm.cell 2;have p3:w3.cell? ⟨w.heap.size,3,none⟩=some (.slice a n c):=A3.out.tm.cell 3;have pd:w3.cell? ⟨w.heap.size+1,0,none⟩=some (.int .i64 d):=A3.out.dp.cell 0)
    | (go_at_call 121;first | (refine (HC.out _ _ A3.out.below A3.out.dp).mono ?_;rintro e w4 ⟨rfl,hb4⟩;have A4:=hid (A3.out.beh hb4)) | (refine (HC.out _ _ A2.out.below A2.out.dp).mono ?_;rintro e w4 ⟨rfl,hb4⟩;have A4:=hid (A2.out.beh hb4))))
  all_goals go_ret
  all_goals refine ⟨ret_bool ?_,by (first | exact A4.out.below | exact A3.out.below | exact A2.out.below)⟩
  all_goals (unfold formB;simp [HSB.out, *] <;> (intros;first | omega | (exfalso;simp_all <;> omega) | (simp_all <;> omega)))
theorem right_8 (num more:Int) (a:Option Addr) (n c:Nat) (d:Nat) (b:Bool) (w:World) (hn:n≤39) (hd:1≤d∧d≤8) (hc:KidsAt w a n c d b) :
  Calls Tryz.prog 78 #[.agg #[.int .i64 8,.int .i64 num,.int .i64 more,.slice a n c],.int .i64 d] w fun e w'=>e=.returned (.bool (formB 8 num more n && !b))∧Below w.heap.size w w':=by
 have A:=RtW.start w 8 num more a n c d
 obtain ⟨W,hW⟩:∃ W,(w.alloc (.cells #[.int .i64 8,.int .i64 num,.int .i64 more,.slice a n c] 24)).alloc (.cells #[.int .i64 d] 3)=W:=⟨_,rfl⟩
 rw [hW] at A
 have q0:W.cell? ⟨w.heap.size,0,none⟩=some (.int .i64 8):=A.tm.cell 0
 have HA:=hid A
 clear A
 have HC:=hid hc
 clear hc
 have HLM:RowKit.Hid (∀ W,Calls Tryz.prog 118 #[.int .i64 8] W fun e w'=>e=.returned (.tuple #[.int .i64 1,.int .i64 10,.bool true])∧Below W.heap.size W w'):=fun W=>limits_any 8 W
 have HKL:RowKit.Hid (∀ W,Calls Tryz.prog 119 #[.int .i64 8] W fun e w'=>e=.returned (.tuple #[.int .i64 0,.int .i64 0])∧Below W.heap.size W w'):=fun W=>kids_any 8 W
 have HS:=hid fun W=>single_any more W
 have HSB:=hid (rfl:(0:Nat)=0)
 obtain ⟨d1,d2⟩:=hd
 have hd0:((d:Int) == 0)=false:=by simp;omega
 go_enter Tryz.func78,Tryz.ntmps78
 go_wp2_with (first
   | (go_at_call 118;refine (HLM.out _).mono ?_;rintro e w1 ⟨rfl,hb1⟩;have A1:=hid (HA.out.beh hb1);have p0:w1.cell? ⟨w.heap.size,0,none⟩=some (.int .i64 8):=A1.out.tm.cell 0;have p1:w1.cell? ⟨w.heap.size,1,none⟩=some (.int .i64 num):=A1.out.tm.cell 1;have p2:w1.cell? ⟨w.heap.size,2,none⟩=some (.int .i64 more):=A1.out.tm.cell 2;have p3:w1.cell? ⟨w.heap.size,3,none⟩=some (.slice a n c):=A1.out.tm.cell 3;have pd:w1.cell? ⟨w.heap.size+1,0,none⟩=some (.int .i64 d):=A1.out.dp.cell 0)
   | (go_at_call 119;refine (HKL.out _).mono ?_;rintro e w2 ⟨rfl,hb2⟩;have A2:=hid (A1.out.beh hb2);have p0:w2.cell? ⟨w.heap.size,0,none⟩=some (.int .i64 8):=A2.out.tm.cell 0;have p1:w2.cell? ⟨w.heap.size,1,none⟩=some (.int .i64 num):=A2.out.tm.cell 1;have p2:w2.cell? ⟨w.heap.size,2,none⟩=some (.int .i64 more):=A2.out.tm.cell 2;have p3:w2.cell? ⟨w.heap.size,3,none⟩=some (.slice a n c):=A2.out.tm.cell 3;have pd:w2.cell? ⟨w.heap.size+1,0,none⟩=some (.int .i64 d):=A2.out.dp.cell 0)
   | (go_at_call 120;refine (HS.out _).mono ?_;rintro e w3 ⟨rfl,hb3⟩;have A3:=hid (A2.out.beh hb3);have p0:w3.cell? ⟨w.heap.size,0,none⟩=some (.int .i64 8):=A3.out.tm.cell 0;have p1:w3.cell? ⟨w.heap.size,1,none⟩=some (.int .i64 num):=A3.out.tm.cell 1;have p2:w3.cell? ⟨w.heap.size,2,none⟩=some (.int .i64 more):=A3.out.tm.cell 2;have p3:w3.cell? ⟨w.heap.size,3,none⟩=some (.slice a n c):=A3.out.tm.cell 3;have pd:w3.cell? ⟨w.heap.size+1,0,none⟩=some (.int .i64 d):=A3.out.dp.cell 0)
   | (go_at_call 121;first | (refine (HC.out _ _ A3.out.below A3.out.dp).mono ?_;rintro e w4 ⟨rfl,hb4⟩;have A4:=hid (A3.out.beh hb4)) | (refine (HC.out _ _ A2.out.below A2.out.dp).mono ?_;rintro e w4 ⟨rfl,hb4⟩;have A4:=hid (A2.out.beh hb4))))
 all_goals go_ret
 all_goals refine ⟨ret_bool ?_,by (first | exact A4.out.below | exact A3.out.below | exact A2.out.below)⟩
 all_goals (unfold formB;simp [HSB.out, *] <;> (intros;first | omega | (exfalso;simp_all <;> omega) | (simp_all <;> omega)))
theorem right_9 (num more:Int) (a:Option Addr) (n c:Nat) (d:Nat) (b:Bool) (w:World) (hn:n≤39) (hd:1≤d∧d≤8) (hc:KidsAt w a n c d b) :
  Calls Tryz.prog 78 #[.agg #[.int .i64 9,.int .i64 num,.int .i64 more,.slice a n c],.int .i64 d] w fun e w'=>e=.returned (.bool (formB 9 num more n && !b))∧Below w.heap.size w w':=by
 have A:=RtW.start w 9 num more a n c d
 obtain ⟨W,hW⟩:∃ W,(w.alloc (.cells #[.int .i64 9,.int .i64 num,.int .i64 more,.slice a n c] 24)).alloc (.cells #[.int .i64 d] 3)=W:=⟨_,rfl⟩
 rw [hW] at A
 have q0:W.cell? ⟨w.heap.size,0,none⟩=some (.int .i64 9):=A.tm.cell 0
 have HA:=hid A
 clear A
 have HC:=hid hc
 clear hc
 have HLM:RowKit.Hid (∀ W,Calls Tryz.prog 118 #[.int .i64 9] W fun e w'=>e=.returned (.tuple #[.int .i64 0,.int .i64 0,.bool false])∧Below W.heap.size W w'):=fun W=>limits_any 9 W
 have HKL:RowKit.Hid (∀ W,Calls Tryz.prog 119 #[.int .i64 9] W fun e w'=>e=.returned (.tuple #[.int .i64 1,.int .i64 40])∧Below W.heap.size W w'):=fun W=>kids_any 9 W
 have HS:=hid fun W=>single_any more W
 have HSB:=hid (rfl:(0:Nat)=0)
 obtain ⟨d1,d2⟩:=hd
 have hd0:((d:Int) == 0)=false:=by simp;omega
 go_enter Tryz.func78,Tryz.ntmps78
 go_wp2_with (first
   | (go_at_call 118;refine (HLM.out _).mono ?_;rintro e w1 ⟨rfl,hb1⟩;have A1:=hid (HA.out.beh hb1);have p0:w1.cell? ⟨w.heap.size,0,none⟩=some (.int .i64 9):=A1.out.tm.cell 0;have p1:w1.cell? ⟨w.heap.size,1,none⟩=some (.int .i64 num):=A1.out.tm.cell 1;have p2:w1.cell? ⟨w.heap.size,2,none⟩=some (.int .i64 more):=A1.out.tm.cell 2;have p3:w1.cell? ⟨w.heap.size,3,none⟩=some (.slice a n c):=A1.out.tm.cell 3;have pd:w1.cell? ⟨w.heap.size+1,0,none⟩=some (.int .i64 d):=A1.out.dp.cell 0)
   | (go_at_call 119;refine (HKL.out _).mono ?_;rintro e w2 ⟨rfl,hb2⟩;have A2:=hid (A1.out.beh hb2);have p0:w2.cell? ⟨w.heap.size,0,none⟩=some (.int .i64 9):=A2.out.tm.cell 0;have p1:w2.cell? ⟨w.heap.size,1,none⟩=some (.int .i64 num):=A2.out.tm.cell 1;have p2:w2.cell? ⟨w.heap.size,2,none⟩=some (.int .i64 more):=A2.out.tm.cell 2;have p3:w2.cell? ⟨w.heap.size,3,none⟩=some (.slice a n c):=A2.out.tm.cell 3;have pd:w2.cell? ⟨w.heap.size+1,0,none⟩=some (.int .i64 d):=A2.out.dp.cell 0)
   | (go_at_call 120;refine (HS.out _).mono ?_;rintro e w3 ⟨rfl,hb3⟩;have A3:=hid (A2.out.beh hb3);have p0:w3.cell? ⟨w.heap.size,0,none⟩=some (.int .i64 9):=A3.out.tm.cell 0;have p1:w3.cell? ⟨w.heap.size,1,none⟩=some (.int .i64 num):=A3.out.tm.cell 1;have p2:w3.cell? ⟨w.heap.size,2,none⟩=some (.int .i64 more):=A3.out.tm.cell 2;have p3:w3.cell? ⟨w.heap.size,3,none⟩=some (.slice a n c):=A3.out.tm.cell 3;have pd:w3.cell? ⟨w.heap.size+1,0,none⟩=some (.int .i64 d):=A3.out.dp.cell 0)
   | (go_at_call 121;first | (refine (HC.out _ _ A3.out.below A3.out.dp).mono ?_;rintro e w4 ⟨rfl,hb4⟩;have A4:=hid (A3.out.beh hb4)) | (refine (HC.out _ _ A2.out.below A2.out.dp).mono ?_;rintro e w4 ⟨rfl,hb4⟩;have A4:=hid (A2.out.beh hb4))))
 all_goals go_ret
 all_goals refine ⟨ret_bool ?_,by (first | exact A4.out.below | exact A3.out.below | exact A2.out.below)⟩
 all_goals (unfold formB;simp [HSB.out, *] <;> (intros;first | omega | (exfalso;simp_all <;> omega) | (simp_all <;> omega)))
theorem right_10 (num more:Int) (a:Option Addr) (n c:Nat) (d:Nat) (b:Bool) (w:World) (hn:n≤39) (hd:1≤d∧d≤8) (hc:KidsAt w a n c d b) :
  Calls Tryz.prog 78 #[.agg #[.int .i64 10,.int .i64 num,.int .i64 more,.slice a n c],.int .i64 d] w fun e w'=>e=.returned (.bool (formB 10 num more n && !b))∧Below w.heap.size w w':=by
 have A:=RtW.start w 10 num more a n c d
 obtain ⟨W,hW⟩:∃ W,(w.alloc (.cells #[.int .i64 10,.int .i64 num,.int .i64 more,.slice a n c] 24)).alloc (.cells #[.int .i64 d] 3)=W:=⟨_,rfl⟩
 rw [hW] at A
 have q0:W.cell? ⟨w.heap.size,0,none⟩=some (.int .i64 10):=A.tm.cell 0
 have HA:=hid A
 clear A
 have HC:=hid hc
 clear hc
 have HLM:RowKit.Hid (∀ W,Calls Tryz.prog 118 #[.int .i64 10] W fun e w'=>e=.returned (.tuple #[.int .i64 0,.int .i64 0,.bool false])∧Below W.heap.size W w'):=fun W=>limits_any 10 W
 have HKL:RowKit.Hid (∀ W,Calls Tryz.prog 119 #[.int .i64 10] W fun e w'=>e=.returned (.tuple #[.int .i64 1,.int .i64 40])∧Below W.heap.size W w'):=fun W=>kids_any 10 W
 have HS:=hid fun W=>single_any more W
 have HSB:=hid (rfl:(0:Nat)=0)
 obtain ⟨d1,d2⟩:=hd
 have hd0:((d:Int) == 0)=false:=by simp;omega
 go_enter Tryz.func78,Tryz.ntmps78
 go_wp2_with (first
   | (go_at_call 118;refine (HLM.out _).mono ?_;rintro e w1 ⟨rfl,hb1⟩;have A1:=hid (HA.out.beh hb1);have p0:w1.cell? ⟨w.heap.size,0,none⟩=some (.int .i64 10):=A1.out.tm.cell 0;have p1:w1.cell? ⟨w.heap.size,1,none⟩=some (.int .i64 num):=A1.out.tm.cell 1;have p2:w1.cell? ⟨w.heap.size,2,none⟩=some (.int .i64 more):=A1.out.tm.cell 2;have p3:w1.cell? ⟨w.heap.size,3,none⟩=some (.slice a n c):=A1.out.tm.cell 3;have pd:w1.cell? ⟨w.heap.size+1,0,none⟩=some (.int .i64 d):=A1.out.dp.cell 0)
   | (go_at_call 119;refine (HKL.out _).mono ?_;rintro e w2 ⟨rfl,hb2⟩;have A2:=hid (A1.out.beh hb2);have p0:w2.cell? ⟨w.heap.size,0,none⟩=some (.int .i64 10):=A2.out.tm.cell 0;have p1:w2.cell? ⟨w.heap.size,1,none⟩=some (.int .i64 num):=A2.out.tm.cell 1;have p2:w2.cell? ⟨w.heap.size,2,none⟩=some (.int .i64 more):=A2.out.tm.cell 2;have p3:w2.cell? ⟨w.heap.size,3,none⟩=some (.slice a n c):=A2.out.tm.cell 3;have pd:w2.cell? ⟨w.heap.size+1,0,none⟩=some (.int .i64 d):=A2.out.dp.cell 0)
   | (go_at_call 120;refine (HS.out _).mono ?_;rintro e w3 ⟨rfl,hb3⟩;have A3:=hid (A2.out.beh hb3);have p0:w3.cell? ⟨w.heap.size,0,none⟩=some (.int .i64 10):=A3.out.tm.cell 0;have p1:w3.cell? ⟨w.heap.size,1,none⟩=some (.int .i64 num):=A3.out.tm.cell 1;have p2:w3.cell? ⟨w.heap.size,2,none⟩=some (.int .i64 more):=A3.out.tm.cell 2;have p3:w3.cell? ⟨w.heap.size,3,none⟩=some (.slice a n c):=A3.out.tm.cell 3;have pd:w3.cell? ⟨w.heap.size+1,0,none⟩=some (.int .i64 d):=A3.out.dp.cell 0)
   | (go_at_call 121;first | (refine (HC.out _ _ A3.out.below A3.out.dp).mono ?_;rintro e w4 ⟨rfl,hb4⟩;have A4:=hid (A3.out.beh hb4)) | (refine (HC.out _ _ A2.out.below A2.out.dp).mono ?_;rintro e w4 ⟨rfl,hb4⟩;have A4:=hid (A2.out.beh hb4))))
 all_goals go_ret
 all_goals refine ⟨ret_bool ?_,by (first | exact A4.out.below | exact A3.out.below | exact A2.out.below)⟩
 all_goals (unfold formB;simp [HSB.out, *] <;> (intros;first | omega | (exfalso;simp_all <;> omega) | (simp_all <;> omega)))
theorem right_11 (num more:Int) (a:Option Addr) (n c:Nat) (d:Nat) (b:Bool) (w:World) (hn:n≤39) (hd:1≤d∧d≤8) (hc:KidsAt w a n c d b) :
  Calls Tryz.prog 78 #[.agg #[.int .i64 11,.int .i64 num,.int .i64 more,.slice a n c],.int .i64 d] w fun e w'=>e=.returned (.bool (formB 11 num more n && !b))∧Below w.heap.size w w':=by
 have A:=RtW.start w 11 num more a n c d
 obtain ⟨W,hW⟩:∃ W,(w.alloc (.cells #[.int .i64 11,.int .i64 num,.int .i64 more,.slice a n c] 24)).alloc (.cells #[.int .i64 d] 3)=W:=⟨_,rfl⟩
 rw [hW] at A
 have q0:W.cell? ⟨w.heap.size,0,none⟩=some (.int .i64 11):=A.tm.cell 0
 have HA:=hid A
 clear A
 have HC:=hid hc
 clear hc
 have HLM:RowKit.Hid (∀ W,Calls Tryz.prog 118 #[.int .i64 11] W fun e w'=>e=.returned (.tuple #[.int .i64 0,.int .i64 0,.bool false])∧Below W.heap.size W w'):=fun W=>limits_any 11 W
 have HKL:RowKit.Hid (∀ W,Calls Tryz.prog 119 #[.int .i64 11] W fun e w'=>e=.returned (.tuple #[.int .i64 1,.int .i64 1])∧Below W.heap.size W w'):=fun W=>kids_any 11 W
 have HS:=hid fun W=>single_any more W
 have HSB:=hid (rfl:(0:Nat)=0)
 obtain ⟨d1,d2⟩:=hd
 have hd0:((d:Int) == 0)=false:=by simp;omega
 go_enter Tryz.func78,Tryz.ntmps78
 go_wp2_with (first
   | (go_at_call 118;refine (HLM.out _).mono ?_;rintro e w1 ⟨rfl,hb1⟩;have A1:=hid (HA.out.beh hb1);have p0:w1.cell? ⟨w.heap.size,0,none⟩=some (.int .i64 11):=A1.out.tm.cell 0;have p1:w1.cell? ⟨w.heap.size,1,none⟩=some (.int .i64 num):=A1.out.tm.cell 1;have p2:w1.cell? ⟨w.heap.size,2,none⟩=some (.int .i64 more):=A1.out.tm.cell 2;have p3:w1.cell? ⟨w.heap.size,3,none⟩=some (.slice a n c):=A1.out.tm.cell 3;have pd:w1.cell? ⟨w.heap.size+1,0,none⟩=some (.int .i64 d):=A1.out.dp.cell 0)
   | (go_at_call 119;refine (HKL.out _).mono ?_;rintro e w2 ⟨rfl,hb2⟩;have A2:=hid (A1.out.beh hb2);have p0:w2.cell? ⟨w.heap.size,0,none⟩=some (.int .i64 11):=A2.out.tm.cell 0;have p1:w2.cell? ⟨w.heap.size,1,none⟩=some (.int .i64 num):=A2.out.tm.cell 1;have p2:w2.cell? ⟨w.heap.size,2,none⟩=some (.int .i64 more):=A2.out.tm.cell 2;have p3:w2.cell? ⟨w.heap.size,3,none⟩=some (.slice a n c):=A2.out.tm.cell 3;have pd:w2.cell? ⟨w.heap.size+1,0,none⟩=some (.int .i64 d):=A2.out.dp.cell 0)
   | (go_at_call 120;refine (HS.out _).mono ?_;rintro e w3 ⟨rfl,hb3⟩;have A3:=hid (A2.out.beh hb3);have p0:w3.cell? ⟨w.heap.size,0,none⟩=some (.int .i64 11):=A3.out.tm.cell 0;have p1:w3.cell? ⟨w.heap.size,1,none⟩=some (.int .i64 num):=A3.out.tm.cell 1;have p2:w3.cell? ⟨w.heap.size,2,none⟩=some (.int .i64 more):=A3.out.tm.cell 2;have p3:w3.cell? ⟨w.heap.size,3,none⟩=some (.slice a n c):=A3.out.tm.cell 3;have pd:w3.cell? ⟨w.heap.size+1,0,none⟩=some (.int .i64 d):=A3.out.dp.cell 0)
   | (go_at_call 121;first | (refine (HC.out _ _ A3.out.below A3.out.dp).mono ?_;rintro e w4 ⟨rfl,hb4⟩;have A4:=hid (A3.out.beh hb4)) | (refine (HC.out _ _ A2.out.below A2.out.dp).mono ?_;rintro e w4 ⟨rfl,hb4⟩;have A4:=hid (A2.out.beh hb4))))
 all_goals go_ret
 all_goals refine ⟨ret_bool ?_,by (first | exact A4.out.below | exact A3.out.below | exact A2.out.below)⟩
 all_goals (unfold formB;simp [HSB.out, *] <;> (intros;first | omega | (exfalso;simp_all <;> omega) | (simp_all <;> omega)))
end Go.Proofs.YtancajcelmhnkaaGreatDoor
