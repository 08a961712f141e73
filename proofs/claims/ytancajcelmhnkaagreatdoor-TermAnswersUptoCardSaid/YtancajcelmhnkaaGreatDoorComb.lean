/- The reference's way of combining two sets of rectangles. -/
import Derived.Test.YtancajcelmhnkaaGreatDoorGu
import Derived.Test.YtancajcelmhnkaaGreatDoorGf
set_option maxRecDepth 100000
set_option maxHeartbeats 16000000
namespace Go.Proofs.YtancajcelmhnkaaGreatDoor
open Go.RowKit Go.Sort Go.Shelf
set_option linter.unusedVariables false
set_option linter.unusedSimpArgs false
structure LI (w:World) (v:Value) (l:List Int):Prop where
 ex:∃ a cap,v=.slice a l.length cap∧Vw w a (intCells l)∧l.length≤cap∧cap≤maxLen∧(a=none→cap=0)
 asc:l.Pairwise (· < ·)
theorem LI.below {w w':World} {v:Value} {l:List Int} (h:LI w v l) (hb:Below w.heap.size w w'):LI w' v l:=by
 obtain ⟨⟨a,cap,h1,h2,h3⟩,h4⟩:=h
 exact ⟨⟨a,cap,h1,h2.below hb,h3⟩,h4⟩
theorem LI.vw {w:World} {a:Option Addr} {n cap:Nat} {l:List Int} (h:LI w (.slice a n cap) l):Vw w a (intCells l):=by
 obtain ⟨⟨a',cap',e,h2,_⟩,_⟩:=h
 cases e;exact h2
def PutPost (w:World) (l:List Int) (n:Int) (e:Ending) (w':World):Prop:=∃ v,e=.returned v∧LI w' v (putI l n)∧Below w.heap.size w w'
theorem put_li (v:Value) (l:List Int) (n:Int) (w:World) (h:LI w v l) (hl:l.length≤1000000000000):Calls Tryz.prog 106 #[v,.int .i64 n] w (PutPost w l n):=by
 obtain ⟨⟨a,cap,rfl,h2,h3,h4,h5⟩,h6⟩:=h
 exact (put_any a _ cap l n w h2 rfl h3 h4 hl h5).mono fun e w' ⟨a',cap',he,q1,q2,q3,q4,q5⟩=>⟨_,he,⟨⟨a',cap',rfl,q1,q2,q3,q4⟩,putI_asc h6⟩,q5⟩
def edgesX (l:List Rc):List Int:=l.flatMap fun q=>[q.1,q.2.2.1]
theorem edgesX_len (l:List Rc):(edgesX l).length=l.length * 2:=by
 induction l with
 | nil=>rfl
 | cons q l ih=>simp [edgesX] at ih ⊢;omega
theorem edgesX_snoc {l:List Rc} {k:Nat} {q:Rc} (h:l[k]? = some q):edgesX (l.take (k+1))=edgesX (l.take k)++[q.1,q.2.2.1]:=by
 unfold edgesX;rw [List.take_add_one,h];simp
theorem edges_len {ls:List (Sc Rc)} (h:∀ s ∈ ls,s.l.length≤100000):(ls.flatMap fun s=>edgesX s.l).length≤200000 * ls.length∧(ls.flatMap fun s=>edgesY s.l).length≤200000 * ls.length:=by
 induction ls with
 | nil=>simp
 | cons s ls ih =>
  have h1:=h s (by simp)
  have h2:=ih (fun s hs=>h s (by simp [hs]))
  simp only [List.flatMap_cons,List.length_append,edgesX_len,edgesY_len,List.length_cons];omega
structure EdI (w:World) (dx dy:List Int) (vx vy:Value) (wr:World):Prop where
 ex:∃ lx ly:List Int,LI wr vx lx∧LI wr vy ly∧(∀ m,m ∈ lx↔m ∈ dx)∧(∀ m,m ∈ ly↔m ∈ dy)∧lx.length≤dx.length∧ly.length≤dy.length
 below:Below w.heap.size w wr
def EdO (w:World) (dx dy:Nat→List Int) (n:Nat) (vx vy i:Value) (wr:World):Prop:=∃ j:Nat,j≤n∧i=.int .i64 j∧EdI w (dx j) (dy j) vx vy wr
def bandOf (lo hi:Int) (s:List Sp):List Rc:=s.map fun t=>(t.1,lo,t.2,hi)
theorem bandOf_len (lo hi:Int) (s:List Sp):(bandOf lo hi s).length=s.length:=by simp [bandOf]
theorem bandOf_snoc (lo hi:Int) (o:List Sp) (u:Sp):bandOf lo hi (o++[u])=bandOf lo hi o++[(u.1,lo,u.2,hi)]:=by simp [bandOf]
theorem band_set (lo hi:Int) (o:List Sp) (u:Sp) (r:Int):(rcCells (bandOf lo hi (o++[u]))).set (o.length * 4+2) (.int .i64 r)=rcCells (bandOf lo hi (o++[(u.1,r)])):=by
 rw [bandOf_snoc,bandOf_snoc,rcCells_snoc,rcCells_snoc,List.set_append_right _ _ (by rw [cellsOf_length encRc_len,bandOf_len];omega),cellsOf_length encRc_len,bandOf_len,show o.length * 4+2 - o.length * 4=2 by omega]
 rfl
theorem band_last (lo hi:Int) (o:List Sp) (u:Sp):(rcCells (bandOf lo hi (o++[u])))[o.length * 4+2]? = some (.int .i64 u.2):=by
 rw [bandOf_snoc,rcCells_snoc,List.getElem?_append_right (by rw [cellsOf_length encRc_len,bandOf_len];omega),cellsOf_length encRc_len,bandOf_len,show o.length * 4+2 - o.length * 4=2 by omega]
 rfl
theorem ka {w:World} {n b k:Nat} {o:Obj} {v:Value} (h:w.cell? ⟨b,k,none⟩=some v):((w.drewN n).alloc o).cell? ⟨b,k,none⟩=some v :=
 (World.cell?_alloc_lt (w.drewN n) o _ (World.block_lt_of_cell? (w.drewN n) _ h)).trans h
def Dj (u v:Value):Prop:=u.ownBlock=none∨u.ownBlock ≠ v.ownBlock
theorem own_apart {w W w3:World} {b0 k k' n m:Nat} {t t':TypeId} {v u:Value} {xs ys:List Value} (ho:w.ownsRow b0 t k v n xs) (hB:W.ownsRow w.heap.size t' k' u m ys) (hg:W.grownBy w3 v.ownBlock):w3.ownsRow w.heap.size t' k' u m ys:=by
 refine hB.kept hg ?_
 cases hu:u.ownBlock with
 | none=>exact .inl rfl
 | some g =>
  right
  intro c
  have h1:=(hB.lt g hu).1
  have h2:=(ho.lt g c.symm).2
  omega
theorem dj_app {w W:World} {b0 k k' n m:Nat} {t t':TypeId} {v u v3:Value} {xs ys:List Value} (ho:w.ownsRow b0 t k v n xs) (hB:W.ownsRow w.heap.size t' k' u m ys) (hat:v3.ownBlock=v.ownBlock∨v3.ownBlock=some W.heap.size):Dj v3 u:=by
 cases h3:v3.ownBlock with
 | none=>exact .inl h3
 | some g =>
  right
  intro c
  rw [h3] at hat
  have hu:u.ownBlock=some g:=c.symm.trans h3
  obtain ⟨h1,h2⟩:=hB.lt g hu
  rcases hat with e | e
  ·have:=(ho.lt g e.symm).2;omega
  ·cases e;omega
theorem len_step {a b i:Nat} (h:a≤i * 400000) (h2:b≤400000):a+b≤(i+1) * 400000:=by rw [Nat.add_mul];omega
def chos (how:Int) (l1 l2:List Rc) (x y:Int):Prop:=keepB how (insB l1 x y) (insB l2 x y)=true
theorem SpI.fin {c:List Int} {K:Int→Prop} {k:Nat} {s:List Sp} (h:SpI c K (k+1) s) (hk:k+1≤c.length∨k=0) (he:¬ k+1<c.length):SpI c K c.length s:=by
 rcases hk with hk | rfl
 ·rw [show c.length=k+1 by omega];exact h
 ·by_cases h1:c.length=1
  ·rw [h1];exact h
  ·have h0:c.length=0:=by omega
   rw [h0]
   exact ⟨h.1,fun x=>(h.2.1 x).trans ⟨fun ⟨k,hk,_⟩=>by omega,fun ⟨k,hk,_⟩=>by omega⟩,h.2.2⟩
theorem bandOf_map (lo hi:Int) (s:List Sp):(bandOf lo hi s).map (fun q=>(q.1,q.2.2.1))=s:=by
 unfold bandOf;rw [List.map_map];conv=>rhs;rw [← List.map_id s]
 rfl
theorem bandOf_flat (lo hi:Int) (s:List Sp):bandOf lo hi s=flat [(lo,hi,s)]:=by rw [flat_one];rfl
theorem sameB_band (l:List Rc) (lo hi:Int) (s:List Sp):sameB l (bandOf lo hi s)=decide (l.map (fun q=>(q.1,q.2.2.1))=s):=by unfold sameB;rw [bandOf_map]
theorem CoI.high {c:List Int} {R:Int→Int→Prop} {i:Nat} {out last:List Rc} (h:CoI c R i out last):∀ q ∈ last,q.2.2.2=c.getD (i - 1) 0:=by
 intro q hq
 rcases h with ⟨_,_,rfl,_⟩ | ⟨B,b,hB,_,rfl⟩
 ·cases hq
 ·rw [flat_one] at hq
  obtain ⟨s,_,rfl⟩:=List.mem_map.1 hq
  exact hB.2.2 b (by simp)
theorem chos_iff (how:Int) {l1 l2:List Rc} {x y x' y':Int} (h1:inRc l1 x y↔inRc l1 x' y') (h2:inRc l2 x y↔inRc l2 x' y'):chos how l1 l2 x y↔chos how l1 l2 x' y':=by
 have e1:insB l1 x y=insB l1 x' y':=by rw [Bool.eq_iff_iff,insB_iff,insB_iff];exact h1
 have e2:insB l2 x y=insB l2 x' y':=by rw [Bool.eq_iff_iff,insB_iff,insB_iff];exact h2
 unfold chos;rw [e1,e2]
theorem chos_in {how:Int} {l1 l2:List Rc} {x y:Int} (h:chos how l1 l2 x y):inRc l1 x y∨inRc l2 x y:=by
 unfold chos keepB at h
 rw [← insB_iff,← insB_iff]
 split at h
 ·simpa using h
 ·split at h <;> simp at h <;> exact .inl h.1
def upTo (hi:Int) (l:List Rc) (j:Nat):List Rc:=(l.take j).map (fun q=>(q.1,q.2.1,q.2.2.1,hi))++l.drop j
theorem upTo_len (hi:Int) (l:List Rc) (j:Nat):(upTo hi l j).length=l.length:=by
 unfold upTo;rw [List.length_append,List.length_map,List.length_take,List.length_drop];omega
theorem upTo_zero (hi:Int) (l:List Rc):upTo hi l 0=l:=by simp [upTo]
theorem upTo_all (hi:Int) (l:List Rc):upTo hi l l.length=l.map (fun q=>(q.1,q.2.1,q.2.2.1,hi)):=by simp [upTo]
theorem upTo_set (hi:Int) (l:List Rc) (j:Nat) (hj:j<l.length):(rcCells (upTo hi l j)).set (j * 4+3) (.int .i64 hi)=rcCells (upTo hi l (j+1)):=by
 have e1:l.drop j=l[j] :: l.drop (j+1):=List.drop_eq_getElem_cons hj
 have e2:l.take (j+1)=l.take j++[l[j]]:=by rw [List.take_add_one,List.getElem?_eq_getElem hj];rfl
 unfold upTo
 rw [e1,e2,List.map_append,List.append_assoc]
 show (cellsOf encRc _).set _ _=cellsOf encRc _
 have hl:((l.take j).map fun q=>(q.1,q.2.1,q.2.2.1,hi)).length=j:=by rw [List.length_map,List.length_take];omega
 rw [cellsOf_append,cellsOf_append,List.set_append_right _ _ (by rw [cellsOf_length encRc_len,hl];omega),cellsOf_length encRc_len,hl,show j * 4+3 - j * 4=3 by omega]
 rfl
def LaI (W wz:World) (g n cap:Nat) (hi:Int) (last:List Rc) (v:Value) (wr:World):Prop:=∃ j:Nat,j≤n∧v=.int .i64 j∧wr.ownsRow W.heap.size 87 4 (.slice (some ⟨g,0,none⟩) n cap) n (rcCells (upTo hi last j))∧wz.grownBy wr (some g)
structure OutI (W:World) (c:List Int) (R:Int→Int→Prop) (v13 v14 v15:Value) (wr:World):Prop where
 ex:∃ (i:Nat) (out last:List Rc),v15=.int .i64 i∧(i+1≤c.length∨i=0)∧CoI c R (i+1) out last∧wr.ownsRow W.heap.size 87 4 v13 out.length (rcCells out) ∧
  wr.ownsRow W.heap.size 87 4 v14 last.length (rcCells last)∧Dj v13 v14∧out.length≤i * 400000∧last.length≤400000
 below:Below W.heap.size W wr
structure InI (W:World) (c:List Int) (K:Int→Prop) (lo hi:Int) (v16 v17:Value) (wr:World):Prop where
 ex:∃ (k:Nat) (s:List Sp),v17=.int .i64 k∧(k+1≤c.length∨k=0)∧SpI c K (k+1) s∧wr.ownsRow W.heap.size 87 4 v16 s.length (rcCells (bandOf lo hi s))∧s.length≤k
 below:Below W.heap.size W wr
theorem getD_of {c:List Int} {i:Nat} (h:i<c.length):c.getD i 0=c[i]:=by simp [List.getD_eq_getElem?_getD,List.getElem?_eq_getElem h]
theorem combine_any (a1:Option Addr) (n1 c1:Nat) (l1:List Rc) (a2:Option Addr) (n2 c2:Nat) (l2:List Rc) (how:Int) (w:World) (h1:ScOk w ⟨a1,n1,c1,l1⟩) (h2:ScOk w ⟨a2,n2,c2,l2⟩) :
  Calls Tryz.prog 62 #[.slice a1 n1 c1,.slice a2 n2 c2,.int .i64 how] w (NewCan w fun x y=>keepB how (insB l1 x y) (insB l2 x y)=true):=by
 have H1:=hid h1;have H2:=hid h2
 clear h1 h2
 go_enter Tryz.func62,Tryz.ntmps62
 go_wp2
 obtain ⟨ls,hls⟩:∃ ls:List (Sc Rc),[⟨a1,n1,c1,l1⟩,⟨a2,n2,c2,l2⟩]=ls:=⟨_,rfl⟩
 have LS:=hid hls
 have LOK:RowKit.Hid (∀ s ∈ ls,ScOk w s):=fun s hs=>by
  rw [← hls] at hs
  rcases List.mem_cons.1 hs with rfl | hs
  ·exact H1.out
  ·rw [List.mem_singleton.1 hs];exact H2.out
 have LL:RowKit.Hid (ls.length=2):=by show _=_;rw [← hls];rfl
 obtain ⟨W0,hW0⟩:∃ W0,w.alloc (.cells #[.slice a1 n1 c1,.slice a2 n2 c2] 36)=W0:=⟨_,rfl⟩
 have VL:RowKit.Hid (Blk W0 w.heap.size 36 #[.slice a1 n1 c1,.slice a2 n2 c2]):=by show Blk W0 _ _ _;rw [← hW0];exact Blk.fresh rfl
 have VLs:RowKit.Hid (Vw W0 (some ⟨w.heap.size,0,none⟩) (cellsOf encSc ls)):=by show Vw W0 _ _;rw [← hls];exact vw_blk VL.out
 have B0:RowKit.Hid (Below w.heap.size w W0):=by show Below _ _ _;rw [← hW0];exact Bw.out
 have z0:w.heap.size<W0.heap.size:=VL.out.lt
 rw [hW0]
 clear hls hW0
 go_loopw [7,8,24] (fun vx vy i wr=>EdO W0 (fun j=>(ls.take j).flatMap fun s=>edgesX s.l) (fun j=>(ls.take j).flatMap fun s=>edgesY s.l) 2 vx vy i wr) (fun _ _ i _=>2 - (intOf i).toNat)
 case atStart=>exact ⟨0,Nat.zero_le _,rfl,⟨[],[],⟨⟨none,0,rfl,Vw.nil _ _,by simp,by unfold maxLen;omega,fun _=>rfl⟩,.nil⟩,⟨⟨none,0,rfl,Vw.nil _ _,by simp,by unfold maxLen;omega,fun _=>rfl⟩,.nil⟩,fun m=>by simp,fun m=>by simp,by simp,by simp⟩,Below.refl _ _⟩
 case round =>
  obtain ⟨k,hk,rfl,⟨⟨lx,ly,hlx,hly,hmx,hmy,hcx,hcy⟩,hb⟩⟩:=hrel
  dsimp only at hmx hmy hcx hcy
  by_cases hlt:k<2
  ·have hlt':(k:Int)<2:=by omega
   obtain ⟨s,b,off,hs,e,hbl,hcs⟩:=(VLs.out.below hb).el encSc_len (by omega) k (by have:=LL.out;omega)
   cases e
   obtain ⟨hsv,hsl,hsn⟩:=LOK.out s (List.mem_of_getElem? hs)
   have c0:wr.cell? ⟨w.heap.size,k,none⟩=some (.slice s.a s.n s.c):=by have:=hcs 0 _ rfl;rwa [Nat.mul_one,Nat.add_zero,Nat.zero_add] at this
   have XV:=hid hsv;have XM:=hid hsl;have HX:=hid hs
   clear hs hsv hsl hcs
   obtain ⟨xa,xm,xc,xl⟩:=s
   dsimp only at c0 hsn
   obtain ⟨dx,hdx⟩:∃ dx,((ls.take k).flatMap fun s=>edgesX s.l)=dx:=⟨_,rfl⟩
   obtain ⟨dy,hdy⟩:∃ dy,((ls.take k).flatMap fun s=>edgesY s.l)=dy:=⟨_,rfl⟩
   rw [hdx] at hmx hcx
   rw [hdy] at hmy hcy
   have hdx2:((ls.take (k+1)).flatMap fun s=>edgesX s.l)=dx++edgesX xl:=by rw [List.take_add_one,HX.out,← hdx];simp
   have hdy2:((ls.take (k+1)).flatMap fun s=>edgesY s.l)=dy++edgesY xl:=by rw [List.take_add_one,HX.out,← hdy];simp
   have hdl:dx.length≤200000 * k∧dy.length≤200000 * k:=by
    have h3:=edges_len (ls:=ls.take k) (fun s hs=>by have:=LOK.out s (List.mem_of_mem_take hs);have:=this.2;omega)
    rw [List.length_take,hdx,hdy] at h3
    have:=Nat.mul_le_mul_left 200000 (Nat.min_le_left k ls.length)
    omega
   have DX:=hid hdx2;have DY:=hid hdy2
   have MX:=hid hmx;have MY:=hid hmy;have LX:=hid hlx;have LY:=hid hly
   obtain ⟨⟨ax,capx,rfl,-⟩,-⟩:=hlx
   obtain ⟨⟨ay,capy,rfl,-⟩,-⟩:=hly
   have HB:=hid hb
   clear hdx hdy hdx2 hdy2 hmx hmy hb
   go_wp2
   obtain ⟨wo,rfl⟩:∃ wo:World,wo=wr:=⟨_,rfl⟩
   go_loopw [7,8,30] (fun vx vy i wx=>EdO W0 (fun j=>dx++edgesX (xl.take j)) (fun j=>dy++edgesY (xl.take j)) xm vx vy i wx) (fun _ _ i _=>xm - (intOf i).toNat)
   case atStart=>exact ⟨0,Nat.zero_le _,rfl,⟨lx,ly,LX.out,LY.out,by simpa [edgesX] using MX.out,by simpa [edgesY] using MY.out,by simpa [edgesX] using hcx,by simpa [edgesY] using hcy⟩,HB.out⟩
   case round =>
    clear LX LY MX MY
    obtain ⟨j,hj,rfl,⟨⟨lx,ly,hlx,hly,hmx,hmy,hcx,hcy⟩,hb⟩⟩:=hrel
    dsimp only at hmx hmy hcx hcy
    rw [List.length_append,edgesX_len,List.length_take] at hcx
    rw [List.length_append,edgesY_len,List.length_take] at hcy
    have MX:=hid hmx;have MY:=hid hmy;have LX2:=hid hlx;have LY2:=hid hly;have HB2:=hid hb
    obtain ⟨⟨ax,capx,rfl,-⟩,-⟩:=hlx
    obtain ⟨⟨ay,capy,rfl,-⟩,-⟩:=hly
    clear hmx hmy
    by_cases hlt2:j<xm
    ·have hlt2':(j:Int)<(xm:Int):=by omega
     obtain ⟨q,b',off',hq,rfl,hbl',hcq⟩:=(XV.out.below (btr B0.out hb)).el encRc_len (by omega) j (by have:=XM.out;omega)
     have e0:wr.cell? ⟨b',off'+j * 4,none⟩=_:=hcq 0 _ rfl;have e1:=hcq 1 _ rfl;have e2:=hcq 2 _ rfl;have e3:=hcq 3 _ rfl
     have HQ:=hid hq
     clear hcq hq hb
     obtain ⟨q0,q1,q2,q3⟩:=q
     dsimp only at e0 e1 e2 e3
     go_wp2
     go_region_held3 (fun w'=>w'.cell? ⟨wr.heap.size,0,none⟩=some (.int .i64 q0)∧w'.cell? ⟨wr.heap.size,1,none⟩=some (.int .i64 q1)∧w'.cell? ⟨wr.heap.size,2,none⟩=some (.int .i64 q2)∧w'.cell? ⟨wr.heap.size,3,none⟩=some (.int .i64 q3)) (simp [go_sem, *])
      (first
      | (go_at_call 106;(with_reducible refine (put_li _ lx q0 _ (LX2.out.below Bw.out) (by omega)).mono ?_);rintro e p1 ⟨v1,rfl,L1,b1⟩;have B1:Below wr.heap.size wr p1:=btr Bw.out b1;have BX1:Blk p1 wr.heap.size 87 #[.int .i64 q0,.int .i64 q1,.int .i64 q2,.int .i64 q3]:=Blk.below (by first | exact Blk.fresh rfl | exact (Blk.fresh rfl).drew) b1;have d10:p1.cell? ⟨wr.heap.size,0,none⟩=some (.int .i64 q0):=BX1.cell 0;have d11:p1.cell? ⟨wr.heap.size,1,none⟩=some (.int .i64 q1):=BX1.cell 1;have d12:p1.cell? ⟨wr.heap.size,2,none⟩=some (.int .i64 q2):=BX1.cell 2;have d13:p1.cell? ⟨wr.heap.size,3,none⟩=some (.int .i64 q3):=BX1.cell 3;have y1:=BX1.lt)
      | (go_at_call 106;(with_reducible refine (put_li _ (putI lx q0) q2 _ L1 (by have:=putI_len lx q0;omega)).mono ?_);rintro e p2 ⟨v2,rfl,L2,b2⟩;have B2:Below wr.heap.size wr p2:=btr B1 b2;have BX2:Blk p2 wr.heap.size 87 #[.int .i64 q0,.int .i64 q1,.int .i64 q2,.int .i64 q3]:=Blk.below BX1 b2;have d20:p2.cell? ⟨wr.heap.size,0,none⟩=some (.int .i64 q0):=BX2.cell 0;have d21:p2.cell? ⟨wr.heap.size,1,none⟩=some (.int .i64 q1):=BX2.cell 1;have d22:p2.cell? ⟨wr.heap.size,2,none⟩=some (.int .i64 q2):=BX2.cell 2;have d23:p2.cell? ⟨wr.heap.size,3,none⟩=some (.int .i64 q3):=BX2.cell 3;have y2:=BX2.lt)
      | (go_at_call 106;(with_reducible refine (put_li _ ly q1 _ (LY2.out.below B2) (by omega)).mono ?_);rintro e p3 ⟨v3,rfl,L3,b3⟩;have B3:Below wr.heap.size wr p3:=btr B2 b3;have BX3:Blk p3 wr.heap.size 87 #[.int .i64 q0,.int .i64 q1,.int .i64 q2,.int .i64 q3]:=Blk.below BX2 b3;have d30:p3.cell? ⟨wr.heap.size,0,none⟩=some (.int .i64 q0):=BX3.cell 0;have d31:p3.cell? ⟨wr.heap.size,1,none⟩=some (.int .i64 q1):=BX3.cell 1;have d32:p3.cell? ⟨wr.heap.size,2,none⟩=some (.int .i64 q2):=BX3.cell 2;have d33:p3.cell? ⟨wr.heap.size,3,none⟩=some (.int .i64 q3):=BX3.cell 3;have y3:=BX3.lt)
      | (go_at_call 106;(with_reducible refine (put_li _ (putI ly q1) q3 _ L3 (by have:=putI_len ly q1;omega)).mono ?_);rintro e p4 ⟨v4,rfl,L4,b4⟩;have B4:Below wr.heap.size wr p4:=btr B3 b4;have BX4:Blk p4 wr.heap.size 87 #[.int .i64 q0,.int .i64 q1,.int .i64 q2,.int .i64 q3]:=Blk.below BX3 b4;have d40:p4.cell? ⟨wr.heap.size,0,none⟩=some (.int .i64 q0):=BX4.cell 0;have d41:p4.cell? ⟨wr.heap.size,1,none⟩=some (.int .i64 q1):=BX4.cell 1;have d42:p4.cell? ⟨wr.heap.size,2,none⟩=some (.int .i64 q2):=BX4.cell 2;have d43:p4.cell? ⟨wr.heap.size,3,none⟩=some (.int .i64 q3):=BX4.cell 3;have y4:=BX4.lt))
     all_goals
      go_wp2
      go_roundw
      case rel =>
       have hx1:∀ m,m ∈ putI (putI lx q0) q2↔m ∈ dx++edgesX (xl.take (j+1)):=fun m=>by
        rw [putI_mem,putI_mem,MX.out,edgesX_snoc HQ.out,← List.append_assoc,List.mem_append (t:=[q0,q2])];simp;constructor <;> rintro (h | h | h) <;> simp [h]
       have hy1:∀ m,m ∈ putI (putI ly q1) q3↔m ∈ dy++edgesY (xl.take (j+1)):=fun m=>by
        rw [putI_mem,putI_mem,MY.out,edgesY_snoc HQ.out,← List.append_assoc,List.mem_append (t:=[q1,q3])];simp;constructor <;> rintro (h | h | h) <;> simp [h]
       refine ⟨j+1,by omega,by go_num,⟨putI (putI lx q0) q2,putI (putI ly q1) q3,L2.below (btr b3 b4),L4,hx1,hy1,?_,?_⟩,btr HB2.out B4⟩
       ·have g1:=putI_len lx q0;have g2:=putI_len (putI lx q0) q2;have g3:=XM.out
        rw [List.length_append,edgesX_len,List.length_take];omega
       ·have g1:=putI_len ly q1;have g2:=putI_len (putI ly q1) q3;have g3:=XM.out
        rw [List.length_append,edgesY_len,List.length_take];omega
      case measure=>simp [intOf];omega
    ·have hge2:¬ (j:Int)<(xm:Int):=by omega
     clear hb
     go_wp2
     go_roundw
     case rel =>
      have et:xl.take j=xl:=List.take_of_length_le (by have:=XM.out;omega)
      have mx:=MX.out;have my:=MY.out
      rw [et] at mx my
      refine ⟨k+1,by omega,by go_num,⟨lx,ly,LX2.out,LY2.out,by dsimp only;rw [DX.out];exact mx,by dsimp only;rw [DY.out];exact my,?_,?_⟩,HB2.out⟩
      ·dsimp only;rw [DX.out,List.length_append,edgesX_len];have:=XM.out;omega
      ·dsimp only;rw [DY.out,List.length_append,edgesY_len];have:=XM.out;omega
     case measure=>simp [intOf];omega
  ·have hge:¬ (k:Int)<2:=by omega
   obtain rfl:k=2:=by omega
   have et:ls.take 2=ls:=List.take_of_length_le (by have:=LL.out;omega)
   rw [et] at hmx hmy hcx hcy
   have hmem:∀ q,(q ∈ l1∨q ∈ l2)→q.1 ∈ lx∧q.2.2.1 ∈ lx∧q.2.1 ∈ ly∧q.2.2.2 ∈ ly:=fun q hq=>by
    have hs:∃ s ∈ ls,q ∈ s.l:=by
     rw [← LS.out]
     rcases hq with hq | hq
     ·exact ⟨⟨a1,n1,c1,l1⟩,by simp,hq⟩
     ·exact ⟨⟨a2,n2,c2,l2⟩,by simp,hq⟩
    obtain ⟨s,hs,hq⟩:=hs
    refine ⟨(hmx _).2 ?_,(hmx _).2 ?_,(hmy _).2 ?_,(hmy _).2 ?_⟩ <;> refine List.mem_flatMap.2 ⟨s,hs,List.mem_flatMap.2 ⟨q,hq,?_⟩⟩ <;> simp
   have hlen:lx.length≤400000∧ly.length≤400000:=by
    have h3:=edges_len (ls:=ls) (fun s hs=>by have:=LOK.out s hs;have:=this.2;omega)
    rw [LL.out] at h3
    omega
   have HM:=hid hmem
   have AX:=hid (asc_of hlx.asc);have AY:=hid (asc_of hly.asc)
   have VX:=hid hlx;have VY:=hid hly;have HB:=hid hb
   obtain ⟨⟨ax,capx,rfl,-⟩,-⟩:=hlx
   obtain ⟨⟨ay,capy,rfl,-⟩,-⟩:=hly
   obtain ⟨hx4,hy4⟩:=hlen
   obtain ⟨nx,hnx⟩:∃ nx,lx.length=nx:=⟨_,rfl⟩
   obtain ⟨ny,hny⟩:∃ ny,ly.length=ny:=⟨_,rfl⟩
   rw [hnx] at VX hx4 ⊢
   rw [hny] at VY hy4 ⊢
   have NX:=hid hnx;have NY:=hid hny
   clear hmx hmy hcx hcy et hmem hb hnx hny
   go_wp2
   obtain ⟨w1,hw1⟩:∃ w1:World,w1=wr:=⟨_,rfl⟩
   subst hw1
   have H1w:=hid (H1.out.below (btr B0.out HB.out));have H2w:=hid (H2.out.below (btr B0.out HB.out));have B1:=hid (btr B0.out HB.out)
   clear H1 H2 LS LOK LL VL VLs B0 HB
   go_loopw [13,14,15] (fun v13 v14 v15 wr=>OutI w1 ly (fun y x=>chos how l1 l2 x y) v13 v14 v15 wr) (fun _ _ i _=>ny - (intOf i).toNat)
   case atStart=>exact ⟨⟨0,[],[],rfl,.inr rfl,.inl ⟨by omega,rfl,rfl,BuI.start _ _⟩,World.ownsRow_nil _ _ _ _,World.ownsRow_nil _ _ _ _,.inl rfl,by simp,by simp⟩,Below.refl _ _⟩
   case round =>
    obtain ⟨⟨i,out,last,rfl,hic,hco,hout,hlast,hdj,hol,hll⟩,hb⟩:=hrel
    have CO:=hid hco;have OUT:=hid hout;have LAST:=hid hlast;have DJ:=hid hdj;have HB:=hid hb
    clear hco hout hlast hdj hb
    by_cases hlt:i+1<ny
    ·have hlt':(i:Int)+1<(ny:Int):=by omega
     have hvy:=VY.out.vw
     have gy0:i<ly.length:=by have:=NY.out;omega
     have gy1:i+1<ly.length:=by have:=NY.out;omega
     obtain ⟨by_,offy,rfl,hyb,cy0⟩:=hvy.int i gy0
     obtain ⟨by2,offy2,ey2,-,cy1⟩:=hvy.int (i+1) gy1
     cases ey2
     obtain ⟨lo,hlo⟩:∃ lo,ly[i]'gy0=lo:=⟨_,rfl⟩
     obtain ⟨hi,hhi⟩:∃ hi,ly[i+1]'gy1=hi:=⟨_,rfl⟩
     rw [hlo] at cy0
     rw [hhi] at cy1
     have ELO:RowKit.Hid (ly.getD i 0=lo):=by show ly.getD i 0=lo;rw [getD_of gy0];exact hlo
     have EHI:RowKit.Hid (ly.getD (i+1) 0=hi):=by show ly.getD (i+1) 0=hi;rw [getD_of gy1];exact hhi
     clear hvy hlo hhi
     have i0:(0:Int)≤(i:Int):=by omega
     have i1:(i:Int)<(ny:Int):=by omega
     have i2:IntKind.i64.wrap ((i:Int)+1)=(i:Int)+1:=IntWalk.i64_in _ (by omega)
     have i3:(0:Int)≤(i:Int)+1:=by omega
     have i4:((i:Int)+1).toNat=i+1:=by omega
     go_wp2
     have cyy0:w1.cell? ⟨by_,offy+i,none⟩=some (.int .i64 lo):=cy0
     obtain ⟨wo,rfl⟩:∃ wo:World,wo=wr:=⟨_,rfl⟩
     go_loopw [16,17] (fun v16 v17 wr=>InI wo lx (fun x=>chos how l1 l2 x lo) lo hi v16 v17 wr) (fun _ k _=>nx - (intOf k).toNat)
     case atStart=>exact ⟨⟨0,[],rfl,.inr rfl,SpI.start _ _ (by omega),World.ownsRow_nil _ _ _ _,by simp⟩,Below.refl _ _⟩
     case round =>
      obtain ⟨⟨k,s,rfl,hkc,hsp,hband,hsk⟩,hb2⟩:=hrel
      have SP:=hid hsp;have BAND:=hid hband;have HB2:=hid hb2
      clear hsp hband hb2
      by_cases hlt2:k+1<nx
      ·have hlt2':(k:Int)+1<(nx:Int):=by omega
       have hvx:=VX.out.vw
       have gx0:k<lx.length:=by have:=NX.out;omega
       have gx1:k+1<lx.length:=by have:=NX.out;omega
       obtain ⟨bx,offx,rfl,hxb,cx0⟩:=hvx.int k gx0
       obtain ⟨bx2,offx2,ex2,-,cx1⟩:=hvx.int (k+1) gx1
       cases ex2
       obtain ⟨xl,hxl⟩:∃ xl,lx[k]'gx0=xl:=⟨_,rfl⟩
       obtain ⟨xr,hxr⟩:∃ xr,lx[k+1]'gx1=xr:=⟨_,rfl⟩
       rw [hxl] at cx0
       rw [hxr] at cx1
       have EXL:RowKit.Hid (lx.getD k 0=xl):=by show lx.getD k 0=xl;rw [getD_of gx0];exact hxl
       have EXR:RowKit.Hid (lx.getD (k+1) 0=xr):=by show lx.getD (k+1) 0=xr;rw [getD_of gx1];exact hxr
       clear hvx hxl hxr
       have k0:(0:Int)≤(k:Int):=by omega
       have k1:(k:Int)<(nx:Int):=by omega
       have k2:IntKind.i64.wrap ((k:Int)+1)=(k:Int)+1:=IntWalk.i64_in _ (by omega)
       have k3:(0:Int)≤(k:Int)+1:=by omega
       have k4:((k:Int)+1).toNat=k+1:=by omega
       have B12:=hid (btr HB.out HB2.out)
       have dx0:wr.cell? ⟨bx,offx+k,none⟩=some (.int .i64 xl):=bc1 B12.out cx0
       have dx1:wr.cell? ⟨bx,offx+(k+1),none⟩=some (.int .i64 xr):=bc1 B12.out cx1
       have dy0:wr.cell? ⟨by_,offy+i,none⟩=some (.int .i64 lo):=bc1 B12.out cy0
       have dy1:wr.cell? ⟨by_,offy+(i+1),none⟩=some (.int .i64 hi):=bc1 B12.out cy1
       obtain ⟨p,hp⟩:∃ p,insB l1 xl lo=p:=⟨_,rfl⟩
       obtain ⟨q,hq⟩:∃ q,insB l2 xl lo=q:=⟨_,rfl⟩
       obtain ⟨r,hr⟩:∃ r,keepB how p q=r:=⟨_,rfl⟩
       have K1:RowKit.Hid (∀ W,Below w1.heap.size w1 W→Calls Tryz.prog 87 #[.slice a1 n1 c1,.int .i64 xl,.int .i64 lo] W fun e w'=>e=.returned (.bool p)∧Below W.heap.size W w'):=fun W hW=>by
        rw [← hp];exact inside_any a1 n1 c1 l1 xl lo W (H1w.out.below hW).1 H1w.out.2.1 (by have:=H1w.out.2.2;dsimp only at this;omega)
       have K2:RowKit.Hid (∀ W,Below w1.heap.size w1 W→Calls Tryz.prog 87 #[.slice a2 n2 c2,.int .i64 xl,.int .i64 lo] W fun e w'=>e=.returned (.bool q)∧Below W.heap.size W w'):=fun W hW=>by
        rw [← hq];exact inside_any a2 n2 c2 l2 xl lo W (H2w.out.below hW).1 H2w.out.2.1 (by have:=H2w.out.2.2;dsimp only at this;omega)
       have K3:RowKit.Hid (∀ W,Calls Tryz.prog 107 #[.bool p,.bool q,.int .i64 how] W fun e w'=>e=.returned (.bool r)∧w'=W):=fun W=>by rw [← hr];exact keep_any p q how W
       have CH:RowKit.Hid (chos how l1 l2 xl lo↔r=true):=by show chos how l1 l2 xl lo↔_;unfold chos;rw [hp,hq,hr]
       clear hp hq hr
       cases r with
       | false =>
        go_wp2
        go_region_held3 (fun w'=>w'.cell? ⟨bx,offx+k,none⟩=some (.int .i64 xl)∧w'.cell? ⟨by_,offy+i,none⟩=some (.int .i64 lo)) (simp [go_sem, *])
         (first
         | (go_at_call 87;(with_reducible refine (K1.out _ (by (repeat (with_reducible first | exact B12.out | exact Below.refl _ _ | refine bdr ?_ | refine bdn ?_ _ | refine bal ?_ _)))).mono ?_);rintro e p1 ⟨rfl,b1⟩;have B2:Below w1.heap.size w1 p1:=btr (by (repeat (with_reducible first | exact B12.out | exact Below.refl _ _ | refine bdr ?_ | refine bdn ?_ _ | refine bal ?_ _))) b1;have ex0:p1.cell? ⟨bx,offx+k,none⟩=some (.int .i64 xl):=bc1 B2 cx0;have ey0:p1.cell? ⟨by_,offy+i,none⟩=some (.int .i64 lo):=bc1 B2 cy0;have D1:Below wr.heap.size wr p1:=btr Bw.out b1)
         | (go_at_call 87;(with_reducible refine (K2.out _ B2).mono ?_);rintro e p2 ⟨rfl,b2⟩;have B3:Below w1.heap.size w1 p2:=btr B2 b2;have fx0:p2.cell? ⟨bx,offx+k,none⟩=some (.int .i64 xl):=bc1 B3 cx0;have fy0:p2.cell? ⟨by_,offy+i,none⟩=some (.int .i64 lo):=bc1 B3 cy0;have D2:Below wr.heap.size wr p2:=btr D1 b2)
         | (go_at_call 107;(with_reducible refine (K3.out _).mono ?_);rintro e p3 ⟨rfl,rfl⟩))
        all_goals
         go_wp2
         go_roundw
         case rel =>
          have hK:¬ chos how l1 l2 (lx.getD (k+1 - 1) 0) lo:=by rw [Nat.add_sub_cancel,EXL.out,CH.out];simp
          exact ⟨⟨k+1,s,by go_num,by omega,SP.out.skip AX.out (by omega) (by omega) hK,own_keep BAND.out D2,by omega⟩,btr HB2.out D2⟩
         case measure=>simp [intOf];omega
       | true =>
        go_wp2
        go_region_held3 (fun w'=>w'.cell? ⟨bx,offx+k,none⟩=some (.int .i64 xl)∧w'.cell? ⟨by_,offy+i,none⟩=some (.int .i64 lo)) (simp [go_sem, *])
         (first
         | (go_at_call 87;(with_reducible refine (K1.out _ (by (repeat (with_reducible first | exact B12.out | exact Below.refl _ _ | refine bdr ?_ | refine bdn ?_ _ | refine bal ?_ _)))).mono ?_);rintro e p1 ⟨rfl,b1⟩;have B2:Below w1.heap.size w1 p1:=btr (by (repeat (with_reducible first | exact B12.out | exact Below.refl _ _ | refine bdr ?_ | refine bdn ?_ _ | refine bal ?_ _))) b1;have ex0:p1.cell? ⟨bx,offx+k,none⟩=some (.int .i64 xl):=bc1 B2 cx0;have ey0:p1.cell? ⟨by_,offy+i,none⟩=some (.int .i64 lo):=bc1 B2 cy0;have D1:Below wr.heap.size wr p1:=btr Bw.out b1)
         | (go_at_call 87;(with_reducible refine (K2.out _ B2).mono ?_);rintro e p2 ⟨rfl,b2⟩;have B3:Below w1.heap.size w1 p2:=btr B2 b2;have fx0:p2.cell? ⟨bx,offx+k,none⟩=some (.int .i64 xl):=bc1 B3 cx0;have fy0:p2.cell? ⟨by_,offy+i,none⟩=some (.int .i64 lo):=bc1 B3 cy0;have D2:Below wr.heap.size wr p2:=btr D1 b2)
         | (go_at_call 107;(with_reducible refine (K3.out _).mono ?_);rintro e p3 ⟨rfl,rfl⟩))
        have fx1:p3.cell? ⟨bx,offx+(k+1),none⟩=some (.int .i64 xr):=bc1 B3 cx1
        have fy1:p3.cell? ⟨by_,offy+(i+1),none⟩=some (.int .i64 hi):=bc1 B3 cy1
        have hK:chos how l1 l2 (lx.getD (k+1 - 1) 0) lo:=by rw [Nat.add_sub_cancel,EXL.out];exact CH.out.2 (by simp)
        have HK:=hid hK
        have BP:=hid (own_keep BAND.out D2)
        have ybx:bx<p3.heap.size:=World.block_lt_of_cell? p3 _ fx0
        have yby:by_<p3.heap.size:=World.block_lt_of_cell? p3 _ fy0
        clear hK dx0 dx1 dy0 dy1 ex0 ey0 K1 K2 K3 BAND
        rcases List.eq_nil_or_concat s with rfl | ⟨o,u,rfl⟩
        ·obtain ⟨a6,cap6,rfl,-,-,-⟩:=own_form BP.out
         go_wp2
         go_quiet (fail)
         go_wp2
         go_region_held3 (fun w'=>w'.cell? ⟨bx,offx+k,none⟩=some (.int .i64 xl)∧w'.cell? ⟨bx,offx+(k+1),none⟩=some (.int .i64 xr)∧w'.cell? ⟨by_,offy+i,none⟩=some (.int .i64 lo)∧w'.cell? ⟨by_,offy+(i+1),none⟩=some (.int .i64 hi)) (first | exact ⟨fx0,fx1,fy0,fy1⟩ | exact ⟨ka fx0,ka fx1,ka fy0,ka fy1⟩ | exact ⟨gx0',gx1',gy0',gy1'⟩)
          (first
          | (refine app_step elRc (by rfl) _ _ (by rfl) wo.heap.size _ 0 [] (by rfl) (own_keep BP.out Bw.out) _ 1 _ (encRc (xl,lo,xr,hi)) (by rfl) (by first | exact vw_blk (Blk.fresh (by simp)) | exact vw_blk (Blk.fresh (by simp)).drew) (by simp) (by rfl) (oneC_rc _) (by omega) (by have:=HB2.out.size;have:=D2.size;simp;omega) ?_;intro v3 w3 hown3 hg3 hat3;have B5:Below wo.heap.size wo w3:=below_app (own_keep BP.out Bw.out) (by (repeat (with_reducible first | exact btr HB2.out D2 | exact Below.refl _ _ | refine bdr ?_ | refine bdn ?_ _ | refine bal ?_ _))) hg3;have B4:Below w1.heap.size w1 w3:=btr HB.out B5;have gx0':w3.cell? ⟨bx,offx+k,none⟩=some (.int .i64 xl):=bc1 B4 cx0;have gx1':w3.cell? ⟨bx,offx+(k+1),none⟩=some (.int .i64 xr):=bc1 B4 cx1;have gy0':w3.cell? ⟨by_,offy+i,none⟩=some (.int .i64 lo):=bc1 B4 cy0;have gy1':w3.cell? ⟨by_,offy+(i+1),none⟩=some (.int .i64 hi):=bc1 B4 cy1;obtain ⟨a3,cap3,rfl,-,-,-⟩:=own_form hown3))
         all_goals
          go_wp2
          go_roundw
          case rel =>
           refine ⟨⟨k+1,[(xl,xr)],by go_num,by omega,?_,hown3,by simp⟩,B5⟩
           have h:=SP.out.add AX.out (by omega) (by omega) HK.out (by simp)
           rw [Nat.add_sub_cancel,EXL.out,EXR.out] at h
           exact h
          case measure=>simp [intOf];omega
        ·simp only [List.concat_eq_append] at BP SP hsk
         obtain ⟨m,hm⟩:∃ m,o.length=m:=⟨_,rfl⟩
         have el:(o++[u]).length=m+1:=by simp [hm]
         rw [el] at BP hsk
         obtain ⟨g6,cap6,rfl,hgc,hgm,hg0,hgl⟩:=own_some BP.out
         have hu:p3.cell? ⟨g6,m * 4+2,none⟩=some (.int .i64 u.2):=by
          rw [BP.out.cellAt _ (by omega),← hm];exact band_last lo hi o u
         have hf:p3.frozen? ⟨g6,m * 4+2,none⟩=false:=BP.out.frozenAt _
         have HMo:=hid hm
         obtain ⟨u0,u1⟩:=u
         dsimp only at hu
         unfold maxLen at hgm
         have m0:(0:Int)<(m:Int)+1:=by omega
         have m1:(0:Int)≤(m:Int):=by omega
         have m2:IntKind.i64.wrap (m:Int)=(m:Int):=IntWalk.i64_in _ (by omega)
         clear hm el
         by_cases hux:u1=xl
         ·subst hux
          go_wp2
          go_quiet (fail)
          go_wp2
          go_roundw
          case rel =>
           have hK2:=own_keep BP.out (show Below p3.heap.size p3 (p3.drewN nq) from Bw.out)
           have hst:=hK2.stored (m * 4+2) (.int .i64 xr)
           have es:=band_set lo hi o (u0,u1) xr
           rw [HMo.out] at es
           rw [es] at hst
           have h:=SP.out.join AX.out (by omega) (by omega) HK.out (by rw [Nat.add_sub_cancel,EXL.out])
           rw [EXR.out] at h
           refine ⟨⟨k+1,o++[(u0,xr)],by go_num,by omega,h,?_,by have:=HMo.out;simp;omega⟩,below_put hK2 (by (repeat (with_reducible first | exact btr HB2.out D2 | exact Below.refl _ _ | refine bdr ?_ | refine bdn ?_ _ | refine bal ?_ _))) _ _⟩
           rw [show (o++[(u0,xr)]).length=m+1 by have:=HMo.out;simp;omega]
           exact hst.1
          case measure=>simp [intOf];omega
         ·have hux':(u1 == xl)=false:=by simpa using hux
          have HUX:=hid hux
          clear hux
          go_wp2
          go_quiet (fail)
          go_wp2
          go_region_held3 (fun w'=>w'.cell? ⟨bx,offx+k,none⟩=some (.int .i64 xl)∧w'.cell? ⟨bx,offx+(k+1),none⟩=some (.int .i64 xr)∧w'.cell? ⟨by_,offy+i,none⟩=some (.int .i64 lo)∧w'.cell? ⟨by_,offy+(i+1),none⟩=some (.int .i64 hi)) (first | exact ⟨fx0,fx1,fy0,fy1⟩ | exact ⟨ka fx0,ka fx1,ka fy0,ka fy1⟩ | exact ⟨gx0',gx1',gy0',gy1'⟩)
           (first
           | (refine app_step elRc (by rfl) _ _ (by rfl) wo.heap.size _ (m+1) _ (by rfl) (own_keep BP.out Bw.out) _ 1 _ (encRc (xl,lo,xr,hi)) (by rfl) (by first | exact vw_blk (Blk.fresh (by simp)) | exact vw_blk (Blk.fresh (by simp)).drew) (by simp) (by rfl) (oneC_rc _) (by omega) (by have:=HB2.out.size;have:=D2.size;simp;omega) ?_;intro v3 w3 hown3 hg3 hat3;have B5:Below wo.heap.size wo w3:=below_app (own_keep BP.out Bw.out) (by (repeat (with_reducible first | exact btr HB2.out D2 | exact Below.refl _ _ | refine bdr ?_ | refine bdn ?_ _ | refine bal ?_ _))) hg3;have B4:Below w1.heap.size w1 w3:=btr HB.out B5;have gx0':w3.cell? ⟨bx,offx+k,none⟩=some (.int .i64 xl):=bc1 B4 cx0;have gx1':w3.cell? ⟨bx,offx+(k+1),none⟩=some (.int .i64 xr):=bc1 B4 cx1;have gy0':w3.cell? ⟨by_,offy+i,none⟩=some (.int .i64 lo):=bc1 B4 cy0;have gy1':w3.cell? ⟨by_,offy+(i+1),none⟩=some (.int .i64 hi):=bc1 B4 cy1;obtain ⟨a3,cap3,rfl,-,-,-⟩:=own_form hown3))
          all_goals
           go_wp2
           go_roundw
           case rel =>
            refine ⟨⟨k+1,o++[(u0,u1)]++[(xl,xr)],by go_num,by omega,?_,?_,by have:=HMo.out;simp;omega⟩,B5⟩
            ·have h:=SP.out.add AX.out (by omega) (by omega) HK.out (by rw [Nat.add_sub_cancel,EXL.out];intro t ht;simp at ht;rw [← ht];exact HUX.out)
             rw [Nat.add_sub_cancel,EXL.out,EXR.out] at h
             exact h
            ·rw [bandOf_snoc lo hi (o++[(u0,u1)]),rcCells_snoc,show (o++[(u0,u1)]++[(xl,xr)]).length=m+1+1 by have:=HMo.out;simp;omega]
             exact hown3
           case measure=>simp [intOf];omega
      ·have hge2:¬ (k:Int)+1<(nx:Int):=by omega
       have hgapS:Gap s∧∀ x,inSp s x↔chos how l1 l2 x lo:=by
        refine SpI.done (c:=lx) (K:=fun x=>chos how l1 l2 x lo) (SP.out.fin hkc (by have:=NX.out;omega)) (fun k hk x h1 h2=>chos_iff how (side_const AX.out (fun q hq=>⟨(HM.out q (.inl hq)).1,(HM.out q (.inl hq)).2.1⟩) hk h1 h2) (side_const AX.out (fun q hq=>⟨(HM.out q (.inr hq)).1,(HM.out q (.inr hq)).2.1⟩) hk h1 h2)) (fun x hx=>?_)
        rcases chos_in hx with hx | hx
        ·exact side_out AX.out (fun q hq=>⟨(HM.out q (.inl hq)).1,(HM.out q (.inl hq)).2.1⟩) hx
        ·exact side_out AX.out (fun q hq=>⟨(HM.out q (.inr hq)).1,(HM.out q (.inr hq)).2.1⟩) hx
       have GAP:=hid hgapS.1;have INS:=hid hgapS.2
       clear hgapS
       have hk9:k≤400000:=by have:=NX.out;omega
       have hks:s.length≤400000:=by omega
       have hgy:i+1<ly.length:=by have:=NY.out;omega
       have OUTw:=hid (own_keep OUT.out HB2.out);have LASTw:=hid (own_keep LAST.out HB2.out);have B12:=hid (btr HB.out HB2.out)
       have dy0:wr.cell? ⟨by_,offy+i,none⟩=some (.int .i64 lo):=bc1 B12.out cy0
       have dy1:wr.cell? ⟨by_,offy+(i+1),none⟩=some (.int .i64 hi):=bc1 B12.out cy1
       obtain ⟨a13,cap13,rfl,-,-,-⟩:=own_form OUT.out
       obtain ⟨a16,cap16,rfl,-,-,-⟩:=own_form BAND.out
       rcases List.eq_nil_or_concat last with rfl | ⟨lo',lu,hlast⟩
       ·obtain ⟨a14,cap14,rfl,-,-,-⟩:=own_form LAST.out
        go_wp2
        go_quiet (fail)
        go_wp2_with (at_builtin;refine app_list elRc rfl _ _ rfl w1.heap.size _ out.length (rcCells out) rfl (own_keep OUTw.out Bw.out) _ 0 _ [] rfl (Vw.nil _ _) (fun _=>rfl) (by first | rfl | simp [cellsOf_length encRc_len]) (fun u hu=>by cases hu) (by omega) (by have:=B12.out.size;simp;omega) ?_;intro v3 w3 hown3 hg3 hat3;have B3:=hid (below_app (own_keep OUTw.out Bw.out) (by (repeat (with_reducible first | exact B12.out | exact Below.refl _ _ | refine bdr ?_ | refine bdn ?_ _ | refine bal ?_ _))) hg3);have BAND3:=hid (own_apart OUT.out (own_keep BAND.out Bw.out) hg3);have DJ3:=hid (dj_app OUT.out (own_keep BAND.out Bw.out) hat3);obtain ⟨a3,cap3,rfl,-,-,-⟩:=own_form hown3)
        go_roundw
        case rel =>
         have hco:=CO.out.add (s:=s) AY.out (by omega) hgy GAP.out (by rw [Nat.add_sub_cancel,ELO.out];exact INS.out) (fun h=>absurd rfl h)
         rw [Nat.add_sub_cancel,ELO.out,EHI.out,← bandOf_flat] at hco
         refine ⟨⟨i+1,out++[],bandOf lo hi s,by go_num,by omega,hco,by simpa using hown3,?_,DJ3.out,by rw [List.length_append];exact len_step hol (Nat.zero_le _),by rw [bandOf_len];exact hks⟩,B3.out⟩
         rw [bandOf_len]
         exact own_base BAND3.out HB.out.size
        case measure=>simp [intOf];omega
       ·have hn14:0<last.length:=by rw [hlast];simp
        have hmaps:=sameB_band last lo hi s
        have hhigh:last[0].2.2.2=lo:=by
         have:=CO.out.high last[0] (List.getElem_mem hn14)
         rw [Nat.add_sub_cancel,ELO.out] at this;exact this
        have hne:last ≠ []:=by intro c;rw [c] at hn14;simp at hn14
        have HNE:=hid hne
        clear hlast hne
        obtain ⟨n14,hn⟩:∃ n14,last.length=n14+1:=⟨last.length - 1,by omega⟩
        have LA:=LASTw.out
        rw [hn] at LA
        obtain ⟨g14,cap14,rfl,hgc,hgm,hg0,hgl⟩:=own_some LA
        have c3:wr.cell? ⟨g14,3,none⟩=some (.int .i64 lo):=by
         rw [LA.cellAt 3 (by omega)]
         have:=cellsOf_at encRc_len last 0 3 hn14 (by omega)
         rw [show 0 * 4+3=3 by omega] at this
         rw [this,← hhigh];rfl
        have LA2:=hid LA;have HN14:=hid hn
        have EQ:RowKit.Hid (∀ q,Calls Tryz.prog 108 #[.slice (some ⟨g14,0,none⟩) (n14+1) cap14,.slice a16 s.length cap16] (wr.drewN q) fun e w'=>e=.returned (.bool (decide (last.map (fun q=>(q.1,q.2.2.1))=s)))∧∃ k,w'=(wr.drewN q).drewN k):=fun q=>by
         rw [← hmaps]
         exact same_any _ _ _ last _ _ _ (bandOf lo hi s) _ (vw_of_own LA) hn (by omega) (vw_of_own BAND.out) (bandOf_len lo hi s) (by omega)
        unfold maxLen at hgm
        clear hn14 hmaps hhigh LA hn
        by_cases hes:last.map (fun q=>(q.1,q.2.2.1))=s
        ·rw [decide_eq_true hes] at EQ
         have HES:=hid hes
         clear hes
         go_wp2
         go_quiet ((go_at_call 108;exact Calls.quiet_of (EQ.out _)))
         go_wp2
         obtain ⟨wz,hwz⟩:∃ wz:World,wr.drewN nq=wz:=⟨_,rfl⟩
         have LZ:=hid (own_keep LA2.out (show Below wr.heap.size wr wz from by rw [← hwz];exact Bw.out))
         have OZ:=hid (own_keep OUTw.out (show Below wr.heap.size wr wz from by rw [← hwz];exact Bw.out))
         have BZ:RowKit.Hid (Below w1.heap.size w1 wz):=by show Below w1.heap.size w1 wz;rw [← hwz];exact (by (repeat (with_reducible first | exact B12.out | exact Below.refl _ _ | refine bdr ?_ | refine bdn ?_ _ | refine bal ?_ _)))
         rw [hwz]
         clear hwz OUTw LASTw LA2 EQ dy0 dy1 c3
         have n0:(0:Int)≤(n14:Int)+1:=by omega
         go_loopw [157] (fun v wr=>LaI w1 wz g14 (n14+1) cap14 hi last v wr) (fun v _=>(n14+1) - (intOf v).toNat)
         case atStart=>exact ⟨0,Nat.zero_le _,rfl,by rw [upTo_zero];exact LZ.out,World.grownBy.refl _ _⟩
         case round =>
          obtain ⟨j,hj,rfl,hown,hgr⟩:=hrel
          have B14:Below w1.heap.size w1 wr:=BZ.out.grown hgr BZ.out.size (by intro q hq;cases hq;exact hg0)
          by_cases hlt3:j<n14+1
          ·have hlt3':(j:Int)<(n14:Int)+1:=by omega
           have j0:(0:Int)≤(j:Int):=by omega
           have ey1:wr.cell? ⟨by_,offy+(i+1),none⟩=some (.int .i64 hi):=bc1 B14 cy1
           have hjl:j<(upTo hi last j).length:=by rw [upTo_len,HN14.out];exact hlt3
           have ec:wr.cell? ⟨g14,j * 4+3,none⟩=some (.int .i64 (upTo hi last j)[j].2.2.2):=by
            rw [hown.cellAt _ (by omega),cellsOf_at encRc_len _ j 3 hjl (by omega)];rfl
           have ef:wr.frozen? ⟨g14,j * 4+3,none⟩=false:=hown.frozenAt _
           obtain ⟨old,hold⟩:∃ old,(upTo hi last j)[j].2.2.2=old:=⟨_,rfl⟩
           rw [hold] at ec
           have OWNL:=hid hown;have GR:=hid hgr
           clear hold hown hgr B14
           go_wp2
           go_roundw
           case rel =>
            have hst:=OWNL.out.stored (j * 4+3) (.int .i64 hi)
            rw [upTo_set hi last j (by rw [HN14.out];exact hlt3)] at hst
            refine ⟨j+1,by omega,by go_num,hst.1,?_⟩
            have g1:=GR.out;have g2:=hst.2
            exact ⟨g2.os.trans g1.os,g2.tape.trans g1.tape,g2.output.trans g1.output,Nat.le_trans g1.size g2.size,fun q hq hn=>(g2.block q (Nat.lt_of_lt_of_le hq g1.size) hn).trans (g1.block q hq hn)⟩
           case measure=>simp [intOf];omega
          ·have hge3:¬ (j:Int)<(n14:Int)+1:=by omega
           obtain rfl:j=n14+1:=by omega
           have OWNL:=hid hown;have GR:=hid hgr;have HB4:=hid B14
           clear hown hgr B14
           go_wp2
           go_roundw
           case rel =>
            have hco:=CO.out.join AY.out (by omega) hgy (by rw [Nat.add_sub_cancel,ELO.out];exact INS.out) HNE.out HES.out
            rw [EHI.out] at hco
            have hu:=upTo_all hi last
            rw [HN14.out] at hu
            refine ⟨⟨i+1,out,last.map fun q=>(q.1,q.2.1,q.2.2.1,hi),by go_num,by omega,hco,OZ.out.kept GR.out DJ.out,?_,DJ.out,Nat.le_trans hol (by rw [Nat.add_mul];omega),by rw [List.length_map];exact hll⟩,HB4.out⟩
            rw [List.length_map,HN14.out,← hu]
            exact OWNL.out
           case measure=>simp [intOf];omega
        ·rw [decide_eq_false hes] at EQ
         have HES:=hid hes
         clear hes
         go_wp2
         go_quiet ((go_at_call 108;exact Calls.quiet_of (EQ.out _)))
         go_wp2_with (at_builtin;refine app_list elRc rfl _ _ rfl w1.heap.size _ out.length (rcCells out) rfl (own_keep OUTw.out Bw.out) _ (n14+1) _ (rcCells last) rfl (vw_of_own (own_keep LA2.out Bw.out)) (by simp) (by rw [cellsOf_length encRc_len,HN14.out]) (oneC_cells oneC_rc _) (by have:=HN14.out;omega) (by have:=B12.out.size;simp;omega) ?_;intro v3 w3 hown3 hg3 hat3;have B3:=hid (below_app (own_keep OUTw.out Bw.out) (by (repeat (with_reducible first | exact B12.out | exact Below.refl _ _ | refine bdr ?_ | refine bdn ?_ _ | refine bal ?_ _))) hg3);have BAND3:=hid (own_apart OUT.out (own_keep BAND.out Bw.out) hg3);have DJ3:=hid (dj_app OUT.out (own_keep BAND.out Bw.out) hat3);obtain ⟨a3,cap3,rfl,-,-,-⟩:=own_form hown3)
         go_roundw
         case rel =>
          have hco:=CO.out.add (s:=s) AY.out (by omega) hgy GAP.out (by rw [Nat.add_sub_cancel,ELO.out];exact INS.out) (fun _=>HES.out)
          rw [Nat.add_sub_cancel,ELO.out,EHI.out,← bandOf_flat] at hco
          refine ⟨⟨i+1,out++last,bandOf lo hi s,by go_num,by omega,hco,?_,?_,DJ3.out,by rw [List.length_append];exact len_step hol hll,by rw [bandOf_len];exact hks⟩,B3.out⟩
          ·rw [List.length_append,HN14.out]
           show World.ownsRow _ _ _ _ _ _ (cellsOf encRc _)
           rw [cellsOf_append];exact hown3
          ·rw [bandOf_len]
           exact own_base BAND3.out HB.out.size
         case measure=>simp [intOf];omega
    ·have hge:¬ (i:Int)+1<(ny:Int):=by omega
     have hi9:i≤400000:=by have:=NY.out;omega
     obtain ⟨a13,cap13,rfl,-,-,-⟩:=own_form OUT.out
     obtain ⟨a14,cap14,rfl,-,-,q14⟩:=own_form LAST.out
     have Q14:RowKit.Hid (a14=none→last.length=0):=fun h=>by
      rcases q14 with ⟨_,h2,_⟩ | ⟨g,h2,_⟩
      ·exact h2
      ·rw [h] at h2;cases h2
     have ho9:out.length≤400000 * 400000:=Nat.le_trans hol (Nat.mul_le_mul_right _ hi9)
     clear q14
     go_wp2_with (at_builtin;refine app_list elRc rfl _ _ rfl w1.heap.size _ out.length (rcCells out) rfl OUT.out _ last.length _ (rcCells last) rfl (vw_of_own LAST.out) Q14.out (cellsOf_length encRc_len last) (oneC_cells oneC_rc _) (by omega) HB.out.size ?_;intro v3 w3 hown3 hg3 hat3;have B3:=hid (below_app OUT.out HB.out hg3);obtain ⟨a3,cap3,rfl,-,-,-⟩:=own_form hown3)
     go_ret
     refine ⟨out++last,?_,by rw [List.length_append];omega,_,rfl,?_,btr B1.out B3.out⟩
     ·refine CO.out.done (c:=ly) (R:=fun y x=>chos how l1 l2 x y) (S:=fun x y=>chos how l1 l2 x y) (by have:=NY.out;omega) (fun k hk x y h1 h2=>chos_iff how ?_ ?_) (fun x y hx=>?_)
      ·rw [row_const AY.out (fun q hq=>⟨(HM.out q (.inl hq)).2.2.1,(HM.out q (.inl hq)).2.2.2⟩) hk h1 h2,← inRow_iff]
      ·rw [row_const AY.out (fun q hq=>⟨(HM.out q (.inr hq)).2.2.1,(HM.out q (.inr hq)).2.2.2⟩) hk h1 h2,← inRow_iff]
      ·rcases chos_in hx with hx | hx
       ·exact row_out AY.out (fun q hq=>⟨(HM.out q (.inl hq)).2.2.1,(HM.out q (.inl hq)).2.2.2⟩) hx
       ·exact row_out AY.out (fun q hq=>⟨(HM.out q (.inr hq)).2.2.1,(HM.out q (.inr hq)).2.2.2⟩) hx
     ·rw [List.length_append]
      show World.ownsRow _ _ _ _ _ _ (cellsOf encRc _)
      rw [cellsOf_append]
      exact own_base hown3 B1.out.size
end Go.Proofs.YtancajcelmhnkaaGreatDoor
