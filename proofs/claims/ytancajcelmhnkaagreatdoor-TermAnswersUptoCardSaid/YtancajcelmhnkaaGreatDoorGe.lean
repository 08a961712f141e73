/- slices.Equal over rectangles and over spans. -/
import Derived.Test.YtancajcelmhnkaaGreatDoorGc
import Derived.Test.YtancajcelmhnkaaGreatDoorShq
set_option maxHeartbeats 1000000
namespace Go.Proofs.YtancajcelmhnkaaGreatDoor
open Go.RowKit Go.Shelf
set_option linter.unusedVariables false
theorem allEq_iff {α:Type} [DecidableEq α] [Inhabited α]:∀ (xs ys:List α),Lib.allEq (fun x y=>decide (x=y)) xs ys=decide (xs=ys)
 | [],[]=>rfl
 | [],_ :: _=>rfl
 | _ :: _,[]=>rfl
 | x :: xs,y :: ys=>by
  rw [Lib.allEq,allEq_iff xs ys]
  by_cases h:x=y <;> by_cases h2:xs=ys <;> simp [h,h2]
theorem neRc:NeqAt Tryz.prog 87 (fun x=>.agg (encRc x).toArray) (fun x y=>decide (x=y)):=by
 refine ⟨fun x y w=>?_,GuardAt.agg _ (by kernel_rfl)⟩
 have hS:Tryz.prog.underlying 87=some (.struct (Tryz.prog.fieldsOf 87)):=by kernel_rfl
 have hp:Tryz.prog.stoodInHeld 87=false:=by kernel_rfl
 obtain ⟨a,b,c,d⟩:=x
 obtain ⟨a',b',c',d'⟩:=y
 simp only [encRc]
 rw [run_neq_struct,show (10000:Nat)=9999+1 from rfl,run_equalIn_agg w 9999 87 _ _ hS hp]
 simp only [Program.fieldsOf,Tryz.underlying87]
 go_simp
 by_cases h0:a=a' <;> by_cases h1:b=b' <;> by_cases h2:c=c' <;> by_cases h3:d=d' <;> simp [h0,h1,h2,h3]
theorem rc_enc {w:World} {b off:Nat} {l:List Rc} (hS:Vw w (some ⟨b,off,none⟩) (cellsOf encRc l)):∀ j,j<l.length→∀ i v,(encRc l[j]!)[i]? = some v→w.cell? ⟨b,off+j * 4+i,none⟩=some v:=fun j hj i v hi=>by
 obtain ⟨b',off',e,_,hc⟩:=hS.elem (enc:=encRc) (k:=4) (fun _=>rfl) (by omega) j hj
 cases e
 have ej:l[j]! = l[j]:=by simp [hj]
 rw [ej] at hi
 exact hc i v hi
theorem eqRc_any (a1:Option Addr) (n1 c1:Nat) (l1:List Rc) (a2:Option Addr) (n2 c2:Nat) (l2:List Rc) (w:World) (h1:Vw w a1 (cellsOf encRc l1)) (e1:l1.length=n1) (k1:n1≤9223372036854775807) (h2:Vw w a2 (cellsOf encRc l2)) (e2:l2.length=n2) (k2:n2≤9223372036854775807) (hp:0<n1) (hq:0<n2) :
  Calls Tryz.prog 143 #[.slice a1 n1 c1,.slice a2 n2 c2] w fun e w'=>e=.returned (.bool (decide (l1=l2)))∧∃ q,w'=w.drewN q:=by
 obtain ⟨b1,o1,rfl,_⟩:=h1.elem (enc:=encRc) (k:=4) (fun _=>rfl) (by omega) 0 (by omega)
 obtain ⟨b2,o2,rfl,_⟩:=h2.elem (enc:=encRc) (k:=4) (fun _=>rfl) (by omega) 0 (by omega)
 have hcon:=AnyQ.slices_Equal Tryz.eqRect 4 Tryz.isAgg87 Tryz.sizeOf87 encRc (fun _=>rfl) _ neRc b1 o1 n1 c1 b2 o2 n2 c2 l1 l2 w (by omega) (by omega) k1 k2 (rc_enc h1) (rc_enc h2)
 rw [List.take_of_length_le (by omega),List.take_of_length_le (by omega),allEq_iff] at hcon
 exact hcon
theorem eqRc_len (a1:Option Addr) (n1 c1:Nat) (a2:Option Addr) (n2 c2:Nat) (w:World) (h:n1 ≠ n2) :
  Calls Tryz.prog 143 #[.slice a1 n1 c1,.slice a2 n2 c2] w fun e w'=>e=.returned (.bool false)∧∃ q,w'=w.drewN q:=by
 have hne:¬ (n1:Int)=(n2:Int):=by omega
 go_enter Tryz.func143,Tryz.ntmps143
 go_wp2
 go_ret
 exact ⟨rfl,0,rfl⟩
theorem eqRc_zero (a1:Option Addr) (c1:Nat) (a2:Option Addr) (c2:Nat) (w:World) :
  Calls Tryz.prog 143 #[.slice a1 0 c1,.slice a2 0 c2] w fun e w'=>e=.returned (.bool true)∧∃ q,w'=w.drewN q:=by
 go_enter Tryz.func143,Tryz.ntmps143
 go_wp2
 go_loop [13] (fun i=>i=.int .i64 0) (fun _=>0)
 case atStart=>rfl
 case round =>
  subst hrel
  go_wp2
  go_ret
  exact ⟨rfl,0,rfl⟩
theorem eqRc (a1:Option Addr) (n1 c1:Nat) (l1:List Rc) (a2:Option Addr) (n2 c2:Nat) (l2:List Rc) (w:World) (h1:Vw w a1 (cellsOf encRc l1)) (e1:l1.length=n1) (k1:n1≤9223372036854775807) (h2:Vw w a2 (cellsOf encRc l2)) (e2:l2.length=n2) (k2:n2≤9223372036854775807) :
  Calls Tryz.prog 143 #[.slice a1 n1 c1,.slice a2 n2 c2] w fun e w'=>e=.returned (.bool (decide (l1=l2)))∧∃ q,w'=w.drewN q:=by
 by_cases h:n1=n2
 ·subst h
  by_cases h0:0<n1
  ·exact eqRc_any a1 n1 c1 l1 a2 n1 c2 l2 w h1 e1 k1 h2 e2 k2 h0 h0
  ·obtain rfl:n1=0:=by omega
   rw [List.length_eq_zero_iff.1 e1,List.length_eq_zero_iff.1 e2]
   simpa using eqRc_zero a1 c1 a2 c2 w
 ·have hne:l1 ≠ l2:=fun c=>h (by rw [← e1,← e2,c])
  simpa [hne] using eqRc_len a1 n1 c1 a2 n2 c2 w h
theorem neSp:NeqAt Tryz.prog 243 (fun x=>.agg (encSp x).toArray) (fun x y=>decide (x=y)):=by
 refine ⟨fun x y w=>?_,GuardAt.agg _ (by kernel_rfl)⟩
 have hS:Tryz.prog.underlying 243=some (.struct (Tryz.prog.fieldsOf 243)):=by kernel_rfl
 have hp:Tryz.prog.stoodInHeld 243=false:=by kernel_rfl
 obtain ⟨a,b⟩:=x
 obtain ⟨a',b'⟩:=y
 simp only [encSp]
 rw [run_neq_struct,show (10000:Nat)=9999+1 from rfl,run_equalIn_agg w 9999 243 _ _ hS hp]
 simp only [Program.fieldsOf,Tryz.underlying243]
 go_simp
 by_cases h0:a=a' <;> by_cases h1:b=b' <;> simp [h0,h1]
theorem sp_enc {w:World} {b off:Nat} {l:List Sp} (hS:Vw w (some ⟨b,off,none⟩) (cellsOf encSp l)):∀ j,j<l.length→∀ i v,(encSp l[j]!)[i]? = some v→w.cell? ⟨b,off+j * 2+i,none⟩=some v:=fun j hj i v hi=>by
 obtain ⟨b',off',e,_,hc⟩:=hS.elem (enc:=encSp) (k:=2) (fun _=>rfl) (by omega) j hj
 cases e
 have ej:l[j]! = l[j]:=by simp [hj]
 rw [ej] at hi
 exact hc i v hi
theorem eqSp_any (a1:Option Addr) (n1 c1:Nat) (l1:List Sp) (a2:Option Addr) (n2 c2:Nat) (l2:List Sp) (w:World) (h1:Vw w a1 (cellsOf encSp l1)) (e1:l1.length=n1) (k1:n1≤9223372036854775807) (h2:Vw w a2 (cellsOf encSp l2)) (e2:l2.length=n2) (k2:n2≤9223372036854775807) (hp:0<n1) (hq:0<n2) :
  Calls Tryz.prog 200 #[.slice a1 n1 c1,.slice a2 n2 c2] w fun e w'=>e=.returned (.bool (decide (l1=l2)))∧∃ q,w'=w.drewN q:=by
 obtain ⟨b1,o1,rfl,_⟩:=h1.elem (enc:=encSp) (k:=2) (fun _=>rfl) (by omega) 0 (by omega)
 obtain ⟨b2,o2,rfl,_⟩:=h2.elem (enc:=encSp) (k:=2) (fun _=>rfl) (by omega) 0 (by omega)
 have hcon:=AnyQ.slices_Equal Tryz.eqSpan 2 Tryz.isAgg243 Tryz.sizeOf243 encSp (fun _=>rfl) _ neSp b1 o1 n1 c1 b2 o2 n2 c2 l1 l2 w (by omega) (by omega) k1 k2 (sp_enc h1) (sp_enc h2)
 rw [List.take_of_length_le (by omega),List.take_of_length_le (by omega),allEq_iff] at hcon
 exact hcon
theorem eqSp_len (a1:Option Addr) (n1 c1:Nat) (a2:Option Addr) (n2 c2:Nat) (w:World) (h:n1 ≠ n2) :
  Calls Tryz.prog 200 #[.slice a1 n1 c1,.slice a2 n2 c2] w fun e w'=>e=.returned (.bool false)∧∃ q,w'=w.drewN q:=by
 have hne:¬ (n1:Int)=(n2:Int):=by omega
 go_enter Tryz.func200,Tryz.ntmps200
 go_wp2
 go_ret
 exact ⟨rfl,0,rfl⟩
theorem eqSp_zero (a1:Option Addr) (c1:Nat) (a2:Option Addr) (c2:Nat) (w:World) :
  Calls Tryz.prog 200 #[.slice a1 0 c1,.slice a2 0 c2] w fun e w'=>e=.returned (.bool true)∧∃ q,w'=w.drewN q:=by
 go_enter Tryz.func200,Tryz.ntmps200
 go_wp2
 go_loop [13] (fun i=>i=.int .i64 0) (fun _=>0)
 case atStart=>rfl
 case round =>
  subst hrel
  go_wp2
  go_ret
  exact ⟨rfl,0,rfl⟩
theorem eqSp (a1:Option Addr) (n1 c1:Nat) (l1:List Sp) (a2:Option Addr) (n2 c2:Nat) (l2:List Sp) (w:World) (h1:Vw w a1 (cellsOf encSp l1)) (e1:l1.length=n1) (k1:n1≤9223372036854775807) (h2:Vw w a2 (cellsOf encSp l2)) (e2:l2.length=n2) (k2:n2≤9223372036854775807) :
  Calls Tryz.prog 200 #[.slice a1 n1 c1,.slice a2 n2 c2] w fun e w'=>e=.returned (.bool (decide (l1=l2)))∧∃ q,w'=w.drewN q:=by
 by_cases h:n1=n2
 ·subst h
  by_cases h0:0<n1
  ·exact eqSp_any a1 n1 c1 l1 a2 n1 c2 l2 w h1 e1 k1 h2 e2 k2 h0 h0
  ·obtain rfl:n1=0:=by omega
   rw [List.length_eq_zero_iff.1 e1,List.length_eq_zero_iff.1 e2]
   simpa using eqSp_zero a1 c1 a2 c2 w
 ·have hne:l1 ≠ l2:=fun c=>h (by rw [← e1,← e2,c])
  simpa [hne] using eqSp_len a1 n1 c1 a2 n2 c2 w h
theorem cfRect_any (a:Option Addr) (len cap:Nat) (l:List Rc) (w:World) (hS:Rcs w a l) (hl:l.length=len) (hcap:len≤9223372036854775807) (h0:0<len) :
  Calls Tryz.prog 140 #[.slice a len cap,.func (.func 141) #[] #[]] w fun e w'=>e=.returned (.bool (l.any fun q=>!decide (Prp q)))∧Below w.heap.size w w':=by
 obtain ⟨b,off,rfl,h1⟩:=hS 0 (by omega)
 have eg:∀ args w,(callFunc 141 args).run Tryz.prog w=.ok (.enter 141 args) w:=enters_of Tryz.func141 (by kernel_rfl) rfl
 have hcon:=AnyQ.slices_ContainsFunc Tryz.cfRect 4 Tryz.isAgg87 Tryz.sizeOf87 encRc (fun _=>rfl) (fun q=>!decide (Prp q)) 141 #[] eg b off len cap l w (valid1_pred w) (by omega) hcap
  (World.block_lt_of_cell? _ _ (h1 0 (by omega))) (fun j hj i v hi=>by
   obtain ⟨b',off',e,hc⟩:=hS j hj
   cases e
   have ej:l[j]! = l[j]:=by simp [hj]
   rw [ej] at hi
   match i,hi with
   | 0,hi=>simp [encRc] at hi;rw [← hi];exact hc 0 (by omega)
   | 1,hi=>simp [encRc] at hi;rw [← hi];exact hc 1 (by omega)
   | 2,hi=>simp [encRc] at hi;rw [← hi];exact hc 2 (by omega)
   | 3,hi=>simp [encRc] at hi;rw [← hi];exact hc 3 (by omega)
   | i+4,hi=>simp [encRc] at hi)
 rw [List.take_of_length_le (by omega)] at hcon
 exact hcon
theorem ifRect_none (a:Option Addr) (cap:Nat) (v:Value) (w:World):Calls Tryz.prog 180 #[.slice a 0 cap,v] w fun e w'=>e=.returned (.int .i64 (-1))∧w'=w:=by
 go_enter Tryz.func180,Tryz.ntmps180
 go_wp2
 go_loop [8] (fun i=>i=.int .i64 0) (fun _=>0)
 case atStart=>rfl
 case round =>
  subst hrel
  go_wp2
  go_ret
  exact ⟨rfl,rfl⟩
theorem cfRect_none (a:Option Addr) (cap:Nat) (v:Value) (w:World):Calls Tryz.prog 140 #[.slice a 0 cap,v] w fun e w'=>e=.returned (.bool false)∧w'=w:=by
 go_enter Tryz.func140,Tryz.ntmps140
 go_wp2_with (go_at_call 180;refine (ifRect_none _ _ _ _).mono ?_;rintro e w' ⟨rfl,rfl⟩)
 go_ret
 exact ⟨rfl,rfl⟩
end Go.Proofs.YtancajcelmhnkaaGreatDoor
