/- The reference's regions: canonical ones of rectangles;without,within,meeting,the same;a square. -/
import Derived.Test.YtancajcelmhnkaaGreatDoorGj
set_option maxRecDepth 100000
set_option maxHeartbeats 4000000
namespace Go.Proofs.YtancajcelmhnkaaGreatDoor
open Go.RowKit Go.Sort Go.Shelf
set_option linter.unusedVariables false
set_option linter.unusedSimpArgs false
theorem rgInfo:(Tryz.prog.info? 38).map (·.size)=some 1:=by kernel_rfl
theorem rg_one (a:Option Addr) (n c:Nat):(#[.slice a n c]:Array Value).all (·.oneCell')=true:=by
 rw [List.all_toArray];rfl
def RegP (w:World) (S:Sq) (e:Ending) (w':World):Prop:=∃ a n c l,e=.returned (.tuple #[.agg #[.slice a n c],.int .i64 0])∧ScOk2 w' ⟨a,n,c,l⟩∧IsCan S l∧Below w.heap.size w w'∧∀ b off,a=some ⟨b,off,none⟩→w.heap.size≤b
theorem RegP.congr {w:World} {S T:Sq} {e:Ending} {w':World} (h:RegP w S e w') (k:∀ x y,S x y↔T x y):RegP w T e w':=by
 obtain ⟨a,n,c,l,h1,h2,h3,h4⟩:=h
 exact ⟨a,n,c,l,h1,h2,h3.congr k,h4⟩
def Board (S:Sq):Prop:=∀ x y,S x y→0≤x∧x<10∧0≤y∧y<10
theorem can_120 {S:Sq} {l:List Rc} (h:IsCan S l) (hb:Board S):l.length≤120:=by have:=(isCan_few h 10 fun x y k=>by have:=hb x y k;omega).1;omega
section
variable (a1:Option Addr) (n1 c1:Nat) (l1:List Rc) (a2:Option Addr) (n2 c2:Nat) (l2:List Rc) (w:World)
end
section
variable (a1:Option Addr) (n1 c1:Nat) (l1:List Rc) (a2:Option Addr) (n2 c2:Nat) (l2:List Rc) (w:World)
theorem rhas_any (x y:Int) (h1:ScOk w ⟨a1,n1,c1,l1⟩) :
  Calls Tryz.prog 47 #[.agg #[.slice a1 n1 c1],.int .i64 x,.int .i64 y] w (Says w (Vld l1∧inRc l1 x y)):=by
 obtain ⟨W,hW⟩:∃ W,w.alloc (.cells #[.slice a1 n1 c1] 38)=W:=⟨_,rfl⟩
 have B1:RowKit.Hid (Blk W w.heap.size 38 #[.slice a1 n1 c1]):=by show Blk _ _ _ _;rw [← hW];exact Blk.new w _ _
 have BB:RowKit.Hid (Below w.heap.size w W):=by show Below _ _ _;rw [← hW];exact Bw.out
 have m1:n1≤100000:=h1.2.2
 have HV1:=hid fun W' (hW':Below W.heap.size W W')=>rvalid_any a1 n1 c1 l1 W' (h1.1.below (btr BB.out hW')) h1.2.1 (by omega)
 have HI:=hid fun W' (hW':Below W.heap.size W W')=>inside_any a1 n1 c1 l1 x y W' (h1.1.below (btr BB.out hW')) h1.2.1 (by omega)
 clear h1
 have x1:W.cell? ⟨w.heap.size,0,none⟩=some (.slice a1 n1 c1):=B1.out.cell 0
 by_cases v1:Vld l1
 ·have V1:=hid v1
  clear v1
  go_enter Tryz.func47,Tryz.ntmps47
  go_wp2_with (first
   | (go_at_call 59;(with_reducible refine (HV1.out _ (Below.refl _ _)).mono ?_);rintro e w1 ⟨b1,rfl,hi,hb1⟩;obtain rfl:b1=true:=hi.2 V1.out;clear hi;have y1:=bc1 hb1 x1;have HB1:=hid hb1;clear hb1)
   | (go_at_call 87;refine (HI.out _ HB1.out).mono ?_;rintro e w3 ⟨rfl,hb3⟩))
  go_ret
  refine ⟨_,rfl,(?_:_↔_),btr (btr BB.out HB1.out) hb3⟩
  rw [insB_iff]
  exact ⟨fun h=>⟨V1.out,h⟩,fun h=>h.2⟩
 ·have V1:=hid v1
  clear v1
  go_enter Tryz.func47,Tryz.ntmps47
  go_wp2_with (go_at_call 59;refine (HV1.out _ (Below.refl _ _)).mono ?_;rintro e w1 ⟨b1,rfl,hi,hb1⟩;obtain rfl:b1=false:=no_true fun h=>V1.out (hi.1 h);clear hi;have HB1:=hid hb1;clear hb1)
  go_ret
  exact ⟨false,rfl,⟨(fun h=>by cases h),fun h=>absurd h.1 V1.out⟩,btr BB.out HB1.out⟩
end
end Go.Proofs.YtancajcelmhnkaaGreatDoor
