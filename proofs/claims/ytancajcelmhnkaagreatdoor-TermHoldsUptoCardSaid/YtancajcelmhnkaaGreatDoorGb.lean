/- Small lemmas of the walks: what a call leaves as it was. -/
import Derived.Test.YtancajcelmhnkaaGreatDoorRows
import Derived.WalkSpells
import Derived.WalkLawsBesides
import Derived.Lib.Hide
import Derived.BigQuiet
import Derived.Deep.RegionHeld3
import Derived.Deep.DeepCutAuto
import Derived.Deep.CutBlock
set_option maxHeartbeats 1000000
namespace Go.Proofs.YtancajcelmhnkaaGreatDoor
open Go.RowKit
theorem hid {p:Prop} (h:p):RowKit.Hid p:=Lib.hid h
section
variable {a w w1:World}
theorem bal (h:Below a.heap.size a w) (o:Obj):Below a.heap.size a (w.alloc o):=h.alloc h.size o
theorem bdr (h:Below a.heap.size a w):Below a.heap.size a w.drew:=h.drew
theorem bst (h:Below a.heap.size a w) (b o:Nat) (u:Value) (hp:a.heap.size≤b):Below a.heap.size a (w.setCell ⟨b,o,none⟩ u):=h.setCell hp u
theorem btr (h:Below a.heap.size a w) (k:Below w.heap.size w w1):Below a.heap.size a w1:=h.trans (k.mono h.size)
end
theorem bc1 {W w1:World} {b o:Nat} {v:Value} (hb:Below W.heap.size W w1) (h:W.cell? ⟨b,o,none⟩=some v):w1.cell? ⟨b,o,none⟩=some v :=
 (hb.cell (p:=⟨b,o,none⟩) (World.block_lt_of_cell? W _ h)).trans h
theorem ret_bool {a b:Bool} (h:a=b):Ending.returned (.bool a)=.returned (.bool b):=by rw [h]
theorem ret_int {k:IntKind} {a b:Int} (h:a=b):Ending.returned (.int k a)=.returned (.int k b):=by rw [h]
def modI (k n:Int):Int:=if k.tmod n<0 then k.tmod n+n else k.tmod n
theorem modI_lo (k n:Int) (h:1≤n):0≤modI k n:=by
 unfold modI
 split
 ·have:=Int.lt_tmod_of_pos k (show 0<n by omega);omega
 ·omega
theorem modI_hi (k n:Int) (h:1≤n):modI k n<n:=by
 unfold modI
 have:=Int.tmod_lt_of_pos k (show 0<n by omega)
 split <;> omega
theorem mod_any (k n:Int) (w:World) (h1:1≤n) (h2:n≤1000000000000) :
  Calls Tryz.prog 17 #[.int .i64 k,.int .i64 n] w fun e w'=>e=.returned (.int .i64 (modI k n))∧w'=w:=by
 unfold modI
 have t1:=Int.lt_tmod_of_pos k (show 0<n by omega)
 have t2:=Int.tmod_lt_of_pos k (show 0<n by omega)
 have n0:(n == 0)=false:=by simp;omega
 by_cases h:0≤k
 ·have e:=Int.tmod_eq_emod_of_nonneg (b:=n) h
  have e0:0≤k % n:=Int.emod_nonneg _ (by omega)
  rw [e] at t1 t2 ⊢
  rw [if_neg (by omega)]
  clear e
  go_enter Tryz.func17,Tryz.ntmps17
  go_wp2
  all_goals go_ret
  all_goals exact ⟨rfl,rfl⟩
 ·go_enter Tryz.func17,Tryz.ntmps17
  go_wp2
  all_goals go_ret
  all_goals exact ⟨rfl,rfl⟩
def Tape (w:World) (b:Nat):Prop :=
 ∃ (a:Option Addr) (len cap k:Nat),w.heap[b]? = some (.cells #[.slice a len cap,.int .i64 k] 90 (0,0))∧k≤len∧len≤400 ∧
  (0<len→∃ x:Addr,a=some x∧x.block<b∧∀ i,i<len→∃ z:Int,w.cell? (x.add i)=some (.int .i64 z))
theorem Tape.lt {w:World} {b:Nat} (h:Tape w b):b<w.heap.size:=by
 obtain ⟨_,_,_,_,h,_⟩:=h
 exact lt_of_block h
theorem Tape.keep {w w':World} {b:Nat} (h:Tape w b) (hk:∀ i,i≤b→w'.heap[i]? = w.heap[i]?):Tape w' b:=by
 obtain ⟨a,len,cap,k,hb,h1,h2,h3⟩:=h
 refine ⟨a,len,cap,k,(hk b (Nat.le_refl _)).trans hb,h1,h2,fun hl=>?_⟩
 obtain ⟨x,ha,hx,hc⟩:=h3 hl
 refine ⟨x,ha,hx,fun i hi=>?_⟩
 obtain ⟨z,hz⟩:=hc i hi
 refine ⟨z,(World.cell?_of_block (w:=w) (hk _ ?_)).trans hz⟩
 have:(x.add i).block=x.block:=by unfold Addr.add;split <;> rfl
 omega
theorem Tape.below {w w':World} {b:Nat} (h:Tape w b) (hb:Below w.heap.size w w'):Tape w' b :=
 h.keep fun i hi=>hb.block i (Nat.lt_of_le_of_lt hi h.lt)
theorem Tape.drew {w:World} {b:Nat} (h:Tape w b):Tape w.drew b:=h
theorem Tape.drewN {w:World} {b:Nat} (h:Tape w b) (n:Nat):Tape (w.drewN n) b:=h
theorem Tape.alloc {w:World} {b:Nat} (h:Tape w b) (o:Obj):Tape (w.alloc o) b:=h.below ((Below.refl _ _).alloc (Nat.le_refl _) o)
structure Steps1 (b:Nat) (w w':World):Prop where
 was:Tape w b
 grown:w.grownBy w' (some b)
 now:Tape w' b
theorem Steps1.refl {b:Nat} {w:World} (h:Tape w b):Steps1 b w w:=⟨h,⟨rfl,rfl,rfl,Nat.le_refl _,fun _ _ _=>rfl⟩,h⟩
theorem Steps1.lt {b:Nat} {w w':World} (h:Steps1 b w w'):b<w.heap.size:=h.was.lt
theorem Steps1.size {b:Nat} {w w':World} (h:Steps1 b w w'):w.heap.size≤w'.heap.size:=h.grown.size
theorem Steps1.trans {b:Nat} {w1 w2 w3:World} (h:Steps1 b w1 w2) (k:Steps1 b w2 w3):Steps1 b w1 w3 :=
 ⟨h.was,⟨k.grown.os.trans h.grown.os,k.grown.tape.trans h.grown.tape,k.grown.output.trans h.grown.output,Nat.le_trans h.grown.size k.grown.size,
  fun i hi hn=>(k.grown.block i (Nat.lt_of_lt_of_le hi h.grown.size) hn).trans (h.grown.block i hi hn)⟩,k.now⟩
theorem Steps1.of_below {b:Nat} {w w':World} (h:Tape w b) (hb:Below w.heap.size w w'):Steps1 b w w' :=
 ⟨h,⟨hb.os,hb.tape,hb.output,hb.size,fun i hi _=>hb.block i hi⟩,h.below hb⟩
theorem Steps1.drew {b:Nat} {w w':World} (h:Steps1 b w w'):Steps1 b w w'.drew:=⟨h.was,⟨h.grown.os,h.grown.tape,h.grown.output,h.grown.size,h.grown.block⟩,h.now⟩
theorem Steps1.drewN {b:Nat} {w w':World} (h:Steps1 b w w') (n:Nat):Steps1 b w (w'.drewN n):=⟨h.was,⟨h.grown.os,h.grown.tape,h.grown.output,h.grown.size,h.grown.block⟩,h.now⟩
section
variable {b:Nat} {a w w1:World}
theorem sal (h:Steps1 b a w) (o:Obj):Steps1 b a (w.alloc o):=h.trans (.of_below h.now ((Below.refl _ _).alloc (Nat.le_refl _) o))
theorem sdr (h:Steps1 b a w):Steps1 b a w.drew:=h.drew
theorem sst (h:Steps1 b a w) (k o:Nat) (u:Value) (hk:a.heap.size≤k):Steps1 b a (w.setCell ⟨k,o,none⟩ u) :=
 ⟨h.was,⟨h.grown.os,h.grown.tape,h.grown.output,by simpa [World.setCell] using h.grown.size,
  fun i hi hn=>(Below.heap_setCell w ⟨k,o,none⟩ u i (by show i ≠ k;omega)).trans (h.grown.block i hi hn)⟩,
  h.now.keep fun i hi=>Below.heap_setCell w ⟨k,o,none⟩ u i (by show i ≠ k;have:=h.lt;omega)⟩
theorem stb (h:Steps1 b a w) (k:Below w.heap.size w w1):Steps1 b a w1:=h.trans (.of_below h.now k)
theorem sts (h:Steps1 b a w) (k:Steps1 b w w1):Steps1 b a w1:=h.trans k
theorem sc1 {k o:Nat} {v:Value} (hs:Steps1 b w w1) (h:w.cell? ⟨k,o,none⟩=some v) (hne:k ≠ b):w1.cell? ⟨k,o,none⟩=some v :=
 (World.cell?_of_block (w:=w) (hs.grown.block k (World.block_lt_of_cell? w _ h) (by simpa using hne))).trans h
theorem bos {W:World} (hb:Below W.heap.size W w) (hk:W.heap.size≤b) (h:Steps1 b w w1):Below W.heap.size W w1 :=
 hb.trans ⟨h.grown.os,h.grown.tape,h.grown.output,h.grown.size,fun i hi=>h.grown.block i (Nat.lt_of_lt_of_le hi hb.size) (by simp;omega)⟩
end
def NextPost (b:Nat) (n:Int) (w:World) (e:Ending) (w':World):Prop:=∃ r:Int,0≤r∧r<n∧e=.returned (.int .i64 r)∧Steps1 b w w'
theorem next_any (b:Nat) (n:Int) (w:World) (hT:Tape w b) (h1:1≤n) (h2:n≤1000000000000) :
  Calls Tryz.prog 16 #[.pointer (some ⟨b,0,none⟩),.int .i64 n] w (NextPost b n w):=by
 have hT':=hT
 obtain ⟨a,len,cap,k,hb,hk,hl,hx⟩:=hT
 have c0:w.cell? ⟨b,0,none⟩=some (.slice a len cap):=by simp [World.cell?,hb]
 have c1:w.cell? ⟨b,1,none⟩=some (.int .i64 k):=by simp [World.cell?,hb]
 have f1:w.frozen? ⟨b,1,none⟩=false:=by simp [World.frozen?,hb]
 have TT:=Lib.hid hT'
 have HB:=Lib.hid hb
 clear hT' hb
 by_cases hlt:k<len
 ·obtain ⟨x,rfl,hxb,hc⟩:=hx (by omega)
  obtain ⟨z,hz⟩:=hc k hlt
  obtain ⟨tb,off,spot⟩:=x
  have hspot:spot=none:=by
   obtain ⟨z0,hz0⟩:=hc 0 (by omega)
   simpa [Addr.add] using World.cell?_spot hz0
  subst hspot
  have hz':w.cell? ⟨tb,off+k,none⟩=some (.int .i64 z):=by
   have e:Addr.add ⟨tb,off,none⟩ k=⟨tb,off+k,none⟩:=by unfold Addr.add;split <;> simp_all
   rwa [e] at hz
  have hne:tb ≠ b:=by have:tb<b:=hxb;omega
  have hkk:(k:Int)<(len:Int):=by omega
  have hX:=Lib.hid hc
  have hZ:(w.setCell ⟨b,1,none⟩ (.int .i64 (k+1))).cell? ⟨tb,off+k,none⟩=some (.int .i64 z):=by
   rw [World.cell?_setCell_other _ _ _ _ (by intro e;injection e;omega)];exact hz'
  clear hc hz
  go_enter Tryz.func16,Tryz.ntmps16
  go_wp2
  go_quiet (fail)
  go_wp2
  go_quiet ((go_at_call 17;exact Calls.quiet_of_same (mod_any _ _ _ h1 h2)))
  go_wp2
  go_ret
  refine ⟨modI z n,modI_lo _ _ h1,modI_hi _ _ h1,rfl,?_⟩
  have hs:Steps1 b w (w.setCell ⟨b,1,none⟩ (.int .i64 (k+1))):=by
   refine ⟨TT.out,⟨rfl,rfl,rfl,by simp [World.setCell],fun i _ hn=>Below.heap_setCell _ _ _ _ (by simpa using hn)⟩,some ⟨tb,off,none⟩,len,cap,k+1,?_,hlt,hl,fun _=>⟨_,rfl,hxb,fun i hi=>?_⟩⟩
   ·have hlb:=lt_of_block HB.out
    have hg:w.heap[b]=.cells #[.slice (some ⟨tb,off,none⟩) len cap,.int .i64 k] 90 (0,0):=by simpa [Array.getElem?_eq_getElem hlb] using HB.out
    show (w.heap.modify b _)[b]? = _
    rw [Array.getElem?_eq_getElem (by simpa using hlb),Array.getElem_modify_self,hg]
    rfl
   ·obtain ⟨z',hz''⟩:=hX.out i hi
    refine ⟨z',?_⟩
    rw [World.cell?_setCell_other _ _ _ _ ?_]
    ·exact hz''
    ·intro e
     have e2:=congrArg Addr.block e
     have e3:(Addr.add ⟨tb,off,none⟩ i).block=tb:=by unfold Addr.add;split <;> rfl
     rw [e3] at e2
     exact hne e2.symm
  first | exact hs.drewN _ | exact hs.drew.drewN _ | exact (hs.drewN _).drewN _ | exact (hs.drewN _).drew
 ·have hge:(len:Int)≤(k:Int):=by omega
  clear hx
  go_enter Tryz.func16,Tryz.ntmps16
  go_wp2
  go_quiet (fail)
  go_wp2
  go_ret
  exact ⟨0,by omega,by omega,rfl,(Steps1.refl TT.out).drewN _⟩
def RangePost (b:Nat) (lo hi:Int) (w:World) (e:Ending) (w':World):Prop:=∃ r:Int,lo≤r∧r≤hi∧e=.returned (.int .i64 r)∧Steps1 b w w'
def OnePost (b:Nat) (w:World) (e:Ending) (w':World):Prop:=∃ v:Bool,e=.returned (.bool v)∧Steps1 b w w'
theorem range_any (b:Nat) (lo hi:Int) (w:World) (hT:Tape w b) (h1:lo≤hi) (h2:-100000000000≤lo) (h3:hi≤100000000000) :
  Calls Tryz.prog 48 #[.pointer (some ⟨b,0,none⟩),.int .i64 lo,.int .i64 hi] w (RangePost b lo hi w):=by
 have TT:=Lib.hid hT
 clear hT
 go_enter Tryz.func48,Tryz.ntmps48
 go_wp2_with (go_at_call 16;refine (next_any _ _ _ TT.out (by omega) (by omega)).mono ?_;rintro e w1 ⟨r,r1,r2,rfl,hs⟩)
 go_ret
 exact ⟨lo+r,by omega,by omega,rfl,hs⟩
theorem one_any (b:Nat) (n:Int) (w:World) (hT:Tape w b) (h1:1≤n) (h2:n≤100000000000) :
  Calls Tryz.prog 51 #[.pointer (some ⟨b,0,none⟩),.int .i64 n] w (OnePost b w):=by
 have TT:=Lib.hid hT
 clear hT
 go_enter Tryz.func51,Tryz.ntmps51
 go_wp2_with (go_at_call 16;refine (next_any _ _ _ TT.out (by omega) (by omega)).mono ?_;rintro e w1 ⟨r,r1,r2,rfl,hs⟩)
 go_ret
 exact ⟨_,rfl,hs⟩
set_option linter.unusedVariables false
def Blk (w:World) (g:Nat) (t:TypeId) (cs:Array Value):Prop:=w.heap[g]? = some (.cells cs t (0,0))
section
variable {w w':World} {g b:Nat} {t:TypeId} {cs:Array Value}
theorem Blk.lt (h:Blk w g t cs):g<w.heap.size:=lt_of_block h
theorem Blk.cell (h:Blk w g t cs) (i:Nat):w.cell? ⟨g,i,none⟩=cs[i]?:=cell_of_row w g i cs t (0,0) h
theorem Blk.free (h:Blk w g t cs) (i:Nat):w.frozen? ⟨g,i,none⟩=false:=by
 unfold Blk at h
 simp [World.frozen?,h]
theorem Blk.new (w:World) (t:TypeId) (cs:Array Value):Blk (w.alloc (.cells cs t)) w.heap.size t cs:=heap_alloc_new w _
theorem Blk.drew (h:Blk w g t cs):Blk w.drew g t cs:=h
theorem Blk.drewN (h:Blk w g t cs) (n:Nat):Blk (w.drewN n) g t cs:=h
theorem Blk.alloc (h:Blk w g t cs) (o:Obj):Blk (w.alloc o) g t cs:=(Below.heap_alloc w o g h.lt).trans h
theorem Blk.put (h:Blk w g t cs) (i:Nat) (u:Value):Blk (w.setCell ⟨g,i,none⟩ u) g t (cs.setIfInBounds i u):=by
 unfold Blk at h ⊢
 simp [World.setCell,Array.getElem?_modify,h]
theorem Blk.far (h:Blk w g t cs) (k o:Nat) (u:Value) (hk:g ≠ k):Blk (w.setCell ⟨k,o,none⟩ u) g t cs:=(Below.heap_setCell w ⟨k,o,none⟩ u g hk).trans h
theorem Blk.below (h:Blk w g t cs) (hb:Below w.heap.size w w'):Blk w' g t cs:=(hb.block g h.lt).trans h
theorem Blk.step (h:Blk w g t cs) (hs:Steps1 b w w') (hg:g ≠ b):Blk w' g t cs:=(hs.grown.block g h.lt (by simpa using hg)).trans h
end
theorem Blk.fresh {w:World} {g:Nat} {t:TypeId} {cs:Array Value} (h:g=w.heap.size):Blk (w.alloc (.cells cs t)) g t cs:=h ▸ Blk.new w t cs
theorem Blk.put3 {w:World} {g:Nat} {t:TypeId} {cs cs':Array Value} {v0 v1 v2:Value} (h:Blk w g t cs) (e:((cs.setIfInBounds 0 v0).setIfInBounds 1 v1).setIfInBounds 2 v2=cs') :
  Blk (((w.setCell ⟨g,0,none⟩ v0).setCell ⟨g,1,none⟩ v1).setCell ⟨g,2,none⟩ v2) g t cs':=e ▸ ((h.put 0 _).put 1 _).put 2 _
def Cs (w:World) (g:Nat) (cs:List Value):Prop:=0<cs.length∧∀ i v,cs[i]? = some v→w.cell? ⟨g,i,none⟩=some v
section
variable {w wx:World} {g:Nat} {cs:List Value}
theorem Cs.cell (h:Cs w g cs) (i:Nat) {v:Value} (e:cs[i]? = some v:=by rfl):w.cell? ⟨g,i,none⟩=some v:=h.2 i v e
theorem Cs.lt (h:Cs w g cs):g<w.heap.size:=by
 obtain ⟨h0,hc⟩:=h
 exact World.block_lt_of_cell? w _ (hc 0 _ (List.getElem?_eq_getElem h0))
theorem Cs.below (h:Cs w g cs) (hb:Below w.heap.size w wx):Cs wx g cs:=⟨h.1,fun i v e=>bc1 hb (h.2 i v e)⟩
theorem Cs.drew (h:Cs w g cs):Cs w.drew g cs:=h
theorem Cs.alloc (h:Cs w g cs) (o:Obj):Cs (w.alloc o) g cs:=h.below ((Below.refl _ _).alloc (Nat.le_refl _) o)
theorem Cs.far (h:Cs w g cs) (k o:Nat) (u:Value) (hk:g ≠ k):Cs (w.setCell ⟨k,o,none⟩ u) g cs :=
 ⟨h.1,fun i v e=>(World.cell?_of_block (w:=w) (a:=⟨g,i,none⟩) (Below.heap_setCell w ⟨k,o,none⟩ u g hk)).trans (h.2 i v e)⟩
end
def IB (w:World) (g n:Nat):Prop:=∃ (t:TypeId) (cs:Array Value),Blk w g t cs∧∀ j,j<n→∃ z:Int,cs[j]? = some (.int .i64 z)
section
variable {w wx wy:World} {g n:Nat}
theorem IB.lt (h:IB w g n):g<w.heap.size:=by obtain ⟨t,cs,hb,_⟩:=h;exact hb.lt
theorem IB.below (h:IB w g n) (hb:Below w.heap.size w wx):IB wx g n:=by obtain ⟨t,cs,h1,h2⟩:=h;exact ⟨t,cs,h1.below hb,h2⟩
theorem IB.drew (h:IB w g n):IB w.drew g n:=h
theorem IB.far (h:IB w g n) (k o:Nat) (u:Value) (hk:g ≠ k):IB (w.setCell ⟨k,o,none⟩ u) g n:=by obtain ⟨t,cs,h1,h2⟩:=h;exact ⟨t,cs,h1.far _ _ _ hk,h2⟩
theorem IB.put (h:IB w g n) (o:Nat) (z:Int):IB (w.setCell ⟨g,o,none⟩ (.int .i64 z)) g n:=by
 obtain ⟨t,cs,h1,h2⟩:=h
 refine ⟨t,_,h1.put o _,fun j hj=>?_⟩
 obtain ⟨y,hy⟩:=h2 j hj
 by_cases e:o=j
 ·subst e
  refine ⟨z,?_⟩
  have:=(Array.getElem?_eq_some_iff.1 hy).1
  simp [this]
 ·exact ⟨y,by rw [Array.getElem?_setIfInBounds_ne e];exact hy⟩
theorem IB.at_ (h:IB w g n) (j:Nat) (hj:j<n):∃ z:Int,w.cell? ⟨g,j,none⟩=some (.int .i64 z)∧w.frozen? ⟨g,j,none⟩=false:=by
 obtain ⟨t,cs,h1,h2⟩:=h
 obtain ⟨z,hz⟩:=h2 j hj
 exact ⟨z,(h1.cell j).trans hz,h1.free j⟩
end
structure Al (w:World) (hi:Nat) (gs:List (Nat × Nat)) (wx:World):Prop where
 below:Below w.heap.size w wx
 lo:w.heap.size≤hi
 le:hi≤wx.heap.size
 ib:∀ p,p ∈ gs→p.1<hi∧IB wx p.1 p.2
section
variable {w wx wy:World} {hi hj:Nat} {gs fs:List (Nat × Nat)}
theorem Al.step (h:Al w hi gs wx) (hb:Below wx.heap.size wx wy):Al w hi gs wy:=⟨btr h.below hb,h.lo,Nat.le_trans h.le hb.size,fun p hp=>⟨(h.ib p hp).1,(h.ib p hp).2.below hb⟩⟩
theorem Al.drew (h:Al w hi gs wx):Al w hi gs wx.drew:=⟨bdr h.below,h.lo,h.le,h.ib⟩
theorem Al.alloc (h:Al w hi gs wx) (o:Obj):Al w hi gs (wx.alloc o):=h.step ((Below.refl _ _).alloc (Nat.le_refl _) o)
theorem Al.far (h:Al w hi gs wx) (k o:Nat) (u:Value) (hk:hi≤k):Al w hi gs (wx.setCell ⟨k,o,none⟩ u) :=
 ⟨bst h.below _ _ _ (Nat.le_trans h.lo hk),h.lo,by simpa [World.setCell] using h.le,fun p hp=>⟨(h.ib p hp).1,(h.ib p hp).2.far _ _ _ (by have:=(h.ib p hp).1;omega)⟩⟩
theorem Al.more {g n:Nat} (h:Al w hi gs wx) (hg:IB wx g n) (h1:hi≤hj) (h2:hj≤wx.heap.size) (h3:g<hj):Al w hj ((g,n) :: gs) wx :=
 ⟨h.below,Nat.le_trans h.lo h1,h2,fun p hp=>by
  rcases List.mem_cons.1 hp with rfl | hp
  ·exact ⟨h3,hg⟩
  ·exact ⟨Nat.lt_of_lt_of_le (h.ib p hp).1 h1,(h.ib p hp).2⟩⟩
theorem Al.put {g n:Nat} (h:Al w hi gs wx) (hg:(g,n) ∈ gs) (o:Nat) (z:Int) (hw:w.heap.size≤g):Al w hi gs (wx.setCell ⟨g,o,none⟩ (.int .i64 z)) :=
 ⟨bst h.below _ _ _ hw,h.lo,by simpa [World.setCell] using h.le,fun p hp=>⟨(h.ib p hp).1,by
  by_cases e:p.1=g
  ·rw [e];have:=(h.ib p hp).2;rw [e] at this;exact this.put o z
  ·exact (h.ib p hp).2.far _ _ _ e⟩⟩
theorem Al.at_ {g n:Nat} (h:Al w hi gs wx) (hg:(g,n) ∈ gs) (j:Nat) (hj:j<n):∃ z:Int,wx.cell? ⟨g,j,none⟩=some (.int .i64 z)∧wx.frozen? ⟨g,j,none⟩=false:=(h.ib _ hg).2.at_ j hj
theorem Al.lt {g n:Nat} (h:Al w hi gs wx) (hg:(g,n) ∈ gs):g<wx.heap.size:=Nat.lt_of_lt_of_le (h.ib _ hg).1 h.le
end
def IsRow (k:IntKind) (w:World) (a:Option Addr) (len cap:Nat) (zs:List Int):Prop :=
 (a=none∧len=0∧cap=0∧zs=[]) ∨
 ∃ x,a=some x∧len≤cap∧cap≤maxLen∧zs.length=cap∧(∀ i,i<zs.length→w.cell? (x.add i)=some (.int k (zs.getD i 0)))∧∀ n ∈ zs,(Lit.int k n).wf=true
def NewPost (w:World) (e:Ending) (w':World):Prop:=e=.returned (.pointer (some ⟨w.heap.size,0,none⟩))∧Below w.heap.size w w'∧Tape w' w.heap.size
theorem tape_new (w:World) (a:Option Addr) (len cap:Nat) (h400:len≤400) (hc:0<len→∃ x:Addr,a=some x∧x.block<w.heap.size∧∀ i,i<len→∃ z:Int,w.cell? (x.add i)=some (.int .i64 z)) :
  Tape (w.alloc (.cells #[.slice a len cap,.int .i64 0] 90)) w.heap.size:=by
 refine ⟨a,len,cap,0,heap_alloc_new w _,Nat.zero_le _,h400,fun hl=>?_⟩
 obtain ⟨x,hx,hb,hz⟩:=hc hl
 refine ⟨x,hx,hb,fun i hi=>?_⟩
 obtain ⟨z,h⟩:=hz i hi
 refine ⟨z,(World.cell?_alloc_lt w _ _ ?_).trans h⟩
 have:(x.add i).block=x.block:=by unfold Addr.add;split <;> rfl
 omega
theorem new_any (a:Option Addr) (len cap:Nat) (zs:List Int) (w:World) (hr:IsRow .i64 w a len cap zs) :
  Calls Tryz.prog 11 #[.slice a len cap] w (NewPost w):=by
 rcases hr with ⟨rfl,rfl,rfl,rfl⟩ | ⟨x,rfl,hl,hm,hz,hcell,hwz⟩
 ·go_enter Tryz.func11,Tryz.ntmps11
  go_wp2
  go_ret
  exact ⟨rfl,(Below.refl _ _).alloc (Nat.le_refl _) _,tape_new w _ _ _ (by omega) (by omega)⟩
 ·unfold maxLen at hm
  have HC:=Lib.hid hcell
  have HZ:=Lib.hid hz
  clear hcell hz hwz
  by_cases h4:len≤400
  ·go_enter Tryz.func11,Tryz.ntmps11
   go_wp2
   go_ret
   refine ⟨rfl,(Below.refl _ _).alloc (Nat.le_refl _) _,tape_new w _ _ _ (by omega) (fun hl'=>⟨x,rfl,?_,fun i hi=>⟨_,HC.out i (by have:=HZ.out;omega)⟩⟩)⟩
   have h0:=HC.out 0 (by have:=HZ.out;omega)
   exact World.block_lt_of_cell? w x (by simpa [Addr.add] using h0)
  ·go_enter Tryz.func11,Tryz.ntmps11
   go_wp2
   go_ret
   refine ⟨rfl,(Below.refl _ _).alloc (Nat.le_refl _) _,tape_new w _ _ _ (by omega) (fun hl'=>⟨x,rfl,?_,fun i hi=>⟨_,HC.out i (by have:=HZ.out;omega)⟩⟩)⟩
   have h0:=HC.out 0 (by have:=HZ.out;omega)
   exact World.block_lt_of_cell? w x (by simpa [Addr.add] using h0)
theorem IsRow.alloc {k:IntKind} {w:World} {a:Option Addr} {len cap:Nat} {zs:List Int} (h:IsRow k w a len cap zs) (o:Obj):IsRow k (w.alloc o) a len cap zs:=by
 rcases h with h | ⟨x,h1,h2,h3,h4,h5,h6⟩
 ·exact .inl h
 ·refine .inr ⟨x,h1,h2,h3,h4,fun i hi=>?_,h6⟩
  have hc:=h5 i hi
  exact (World.cell?_alloc_lt w o _ (World.block_lt_of_cell? w _ hc)).trans hc
end Go.Proofs.YtancajcelmhnkaaGreatDoor
