/- region.merge: the squares of a row that are chosen by whether they are in one list of spans,and in another one. -/
import Derived.Test.YtancajcelmhnkaaGreatDoorComb
set_option maxRecDepth 100000
set_option maxHeartbeats 8000000
namespace Go.Proofs.YtancajcelmhnkaaGreatDoor
open Go.RowKit Go.Sort Go.Shelf
set_option linter.unusedVariables false
set_option linter.unusedSimpArgs false
def edgesS (l:List Sp):List Int:=l.flatMap fun s=>[s.1,s.2]
theorem edgesS_len (l:List Sp):(edgesS l).length=l.length * 2:=by
 induction l with
 | nil=>rfl
 | cons q l ih=>simp [edgesS] at ih ⊢;omega
theorem edgesS_snoc {l:List Sp} {k:Nat} {q:Sp} (h:l[k]? = some q):edgesS (l.take (k+1))=edgesS (l.take k)++[q.1,q.2]:=by
 unfold edgesS;rw [List.take_add_one,h];simp
def Chooses (w:World) (g:Nat) (lb:Array Value) (f:Bool→Bool→Bool):Prop :=
 ∀ W:World,Below w.heap.size w W→∀ p q:Bool,Calls Tryz.prog g (#[.bool p,.bool q]++lb) W fun e w'=>e=.returned (.bool (f p q))∧Below W.heap.size W w'
theorem edging_asc {l1 l2 l:List Sp} (h:∀ s ∈ l,s ∈ l1++l2):Edging (ascOf (edgesS (l1++l2))) l:=fun s hs=>by
 rw [ascOf_mem,ascOf_mem]
 unfold edgesS
 exact ⟨List.mem_flatMap.2 ⟨s,h s hs,by simp⟩,List.mem_flatMap.2 ⟨s,h s hs,by simp⟩⟩
theorem asc_of' {c:List Int} (h:c.Pairwise (· < ·)):Asc c:=fun i j hij hj=>by
 have:=List.pairwise_iff_getElem.1 h i j (by omega) hj hij
 simpa [List.getD_eq_getElem?_getD,List.getElem?_eq_getElem hj,List.getElem?_eq_getElem (show i<c.length by omega)] using this
theorem getD_at {c:List Int} {i:Nat} (h:i<c.length):c.getD i 0=c[i]:=by simp [List.getD_eq_getElem?_getD,List.getElem?_eq_getElem h]
def ChI (W:World) (c:List Int) (K:Int→Prop) (v i:Value) (wr:World):Prop :=
 ∃ (k:Nat) (out:List Sp),1≤k∧(k≤c.length∨k=1)∧i=.int .i64 k∧SpI c K k out∧out.length≤k∧wr.ownsRow W.heap.size 243 2 v out.length (spCells out)∧Below W.heap.size W wr
theorem merge_any (a1:Option Addr) (n1 c1:Nat) (l1:List Sp) (a2:Option Addr) (n2 c2:Nat) (l2:List Sp) (g:Nat) (lb:Array Value) (eg:Enters g) (f:Bool→Bool→Bool) (w:World) (h1:Vw w a1 (spCells l1)) (e1:l1.length=n1) (k1:n1≤100000) (z1:a1=none→n1=0) (h2:Vw w a2 (spCells l2)) (e2:l2.length=n2) (k2:n2≤100000) (z2:a2=none→n2=0)
  (hf:Chooses w g lb f) (hff:f false false=false) :
  Calls Tryz.prog 186 #[.slice a1 n1 c1,.slice a2 n2 c2,.func (.func g) #[] lb] w (NewRow w fun x=>f (inSpB l1 x) (inSpB l2 x)=true):=by
 have H1:=hid h1;have H2:=hid h2;have HF:=hid hf
 have CC:RowKit.Hid (∀ (W:World) (b:Nat),Below w.heap.size w W→Blk W b 226 #[.slice a1 n1 c1,.slice a2 n2 c2]→Calls Tryz.prog 206 #[.slice (some ⟨b,0,none⟩) 2 2] W (NewSp W (l1++l2))):=fun W b hW hB =>
  concat_sp b a1 n1 c1 l1 a2 n2 c2 l2 W hB (h1.below hW) e1 (by omega) z1 (h2.below hW) e2 (by omega) z2
 have HL:RowKit.Hid ((l1++l2).length=n1+n2):=by show _=_;rw [List.length_append,e1,e2]
 have hed1:RowKit.Hid (Edging (ascOf (edgesS (l1++l2))) l1):=edging_asc fun s hs=>List.mem_append.2 (.inl hs)
 have hed2:RowKit.Hid (Edging (ascOf (edgesS (l1++l2))) l2):=edging_asc fun s hs=>List.mem_append.2 (.inr hs)
 have HE1:=hid e1;have HE2:=hid e2;have HFF:=hid hff
 obtain ⟨l,hl⟩:∃ l,l1++l2=l:=⟨_,rfl⟩
 rw [hl] at CC HL hed1 hed2
 clear h1 h2 hf e1 e2 hl hff
 unfold Enters at eg
 go_enter Tryz.func186,Tryz.ntmps186
 go_wp2_with (go_at_call 206;refine (CC.out _ _ Bw.out (Blk.fresh rfl)).mono ?_;rintro e w1 ⟨v1,rfl,hown1,hb1⟩;obtain ⟨av,cv,rfl,-,-,-⟩:=own_form hown1)
 obtain ⟨m,hm⟩:∃ m,l.length=m:=⟨_,rfl⟩
 rw [hm] at hown1 HL ⊢
 have HM:=hid hm
 have VA:=hid (vw_of_own hown1);have HB1:=hid (btr Bw.out hb1:Below w.heap.size w w1)
 have hm2:m≤200000:=by have:=HL.out;omega
 clear hown1 hb1 hm
 go_loopw [7,19] (fun v i wr=>RowW w1 3 1 m (fun j=>intCells (edgesS (l.take j))) (fun j=>(edgesS (l.take j)).length) v i wr) (fun _ i _=>m - (intOf i).toNat)
 case atStart=>exact ⟨0,Nat.zero_le _,rfl,World.ownsRow_nil _ _ _ _,Below.refl _ _⟩
 case round =>
  obtain ⟨k,hk,rfl,hown,hb⟩:=hrel
  dsimp only at hown
  have hlk:(edgesS (l.take k)).length≤2 * k:=by rw [edgesS_len,List.length_take];omega
  obtain ⟨L,hL⟩:∃ L,edgesS (l.take k)=L:=⟨_,rfl⟩
  rw [hL] at hown hlk
  have HLL:=hid hL
  clear hL
  obtain ⟨a3,c3,rfl,-,-,-⟩:=own_form hown
  by_cases hlt:k<m
  ·obtain ⟨s,b,off,hs,rfl,hbl,hcs⟩:=(VA.out.below hb).el encSp_len (by omega) k (by have:=HM.out;omega)
   have d0:wr.cell? ⟨b,off+k * 2,none⟩=_:=hcs 0 _ rfl;have d1:=hcs 1 _ rfl
   have HS2:=hid hs
   clear hcs hs
   obtain ⟨s0,s1⟩:=s
   dsimp only at d0 d1
   have OWN:=hid hown;have HB2:=hid hb
   clear hown hb
   go_wp2_with (at_builtin;refine app_list elInt rfl _ _ rfl w1.heap.size _ L.length (intCells L) rfl ((OWN.out.alloc _).alloc _) _ 2 _ [.int .i64 s0,.int .i64 s1] rfl (vw_blk (Blk.fresh (by simp))) (by simp) rfl (oneC_int [s0,s1]) (by omega) (by have:=HB2.out.size;simp;omega) ?_;intro v2 w2 hown2 hg2 _;obtain ⟨a2',cap2,rfl,-,-,-⟩:=own_form hown2)
   go_roundw
   case rel =>
    have eL:edgesS (l.take (k+1))=L++[s0,s1]:=by rw [edgesS_snoc HS2.out,HLL.out]
    refine ⟨k+1,by omega,by go_num,?_,below_app ((OWN.out.alloc _).alloc _) (bal (bal HB2.out _) _) hg2⟩
    dsimp only
    rw [eL,List.length_append]
    simpa [intCells] using hown2
   case measure=>simp [intOf];omega
  ·have e:=HLL.out
   rw [List.take_of_length_le (by have:=HM.out;omega)] at e
   have HED:=hid e
   have OWN:=hid hown;have HB2:=hid hb
   have hLl:L.length≤400000:=by omega
   clear hown hb e
   go_wp2_with (first
    | (go_at_call 202;refine (sort_ints _ _ _ _ _ OWN.out (by omega)).mono ?_;rintro e w2 ⟨rfl,hown2,hg2⟩;have HB3:=hid (below_app OWN.out HB2.out hg2);have OWN2:=hid hown2)
    | (go_at_call 203;refine (compact_ints _ _ _ _ _ OWN2.out (by omega)).mono ?_;rintro e w3 ⟨v3,rfl,hown3,hg3⟩;have HB4:=hid (below_app OWN2.out HB3.out hg3);obtain ⟨a5,c5,rfl,-,-,-⟩:=own_form hown3))
   obtain ⟨c,hc⟩:∃ c,ascOf L=c:=⟨_,rfl⟩
   have hcc:Lib.compact (L.mergeSort fun x y=>decide (x≤y))=c:=hc
   have hasc:Asc c:=hc ▸ asc_of' (ascOf_asc L)
   have hcl:c.length≤400000:=by have:=ascOf_len L;rw [hc] at this;omega
   have ED1:RowKit.Hid (Edging c l1):=by have h:=hed1.out;rw [HED.out,hc] at h;exact h
   have ED2:RowKit.Hid (Edging c l2):=by have h:=hed2.out;rw [HED.out,hc] at h;exact h
   rw [hcc] at hown3 ⊢
   have VC:=hid (vw_of_own hown3);have ASC:=hid hasc
   have HB5:=hid (btr HB1.out HB4.out:Below w.heap.size w w3)
   obtain ⟨p,hp⟩:∃ p,c.length=p:=⟨_,rfl⟩
   rw [hp] at hcl ⊢
   have HPL:=hid hp
   clear hown3 hg3 hown2 hg2 hc hcc hasc hp hed1 hed2
   have HI1:RowKit.Hid (∀ (W:World) (x:Int),Below w.heap.size w W→Calls Tryz.prog 207 #[.slice a1 n1 c1,.int .i64 x] W fun e w'=>e=.returned (.bool (inSpB l1 x))∧Below W.heap.size W w'):=fun W x hW=>pinside_any a1 n1 c1 l1 x W (H1.out.below hW) HE1.out (by omega)
   have HI2:RowKit.Hid (∀ (W:World) (x:Int),Below w.heap.size w W→Calls Tryz.prog 207 #[.slice a2 n2 c2,.int .i64 x] W fun e w'=>e=.returned (.bool (inSpB l2 x))∧Below W.heap.size W w'):=fun W x hW=>pinside_any a2 n2 c2 l2 x W (H2.out.below hW) HE2.out (by omega)
   go_loopw [10,11] (fun v i wr=>ChI w3 c (fun x=>f (inSpB l1 x) (inSpB l2 x)=true) v i wr) (fun _ i _=>p - (intOf i).toNat)
   case atStart=>exact ⟨1,[],by omega,.inr rfl,rfl,SpI.start _ _ (by omega),by simp,World.ownsRow_nil _ _ _ _,Below.refl _ _⟩
   case round =>
    obtain ⟨k,out,hk1,hkc,rfl,hsp,hol,hown,hb⟩:=hrel
    obtain ⟨j,rfl⟩:∃ j,k=j+1:=⟨k - 1,by omega⟩
    have hwb:Below w.heap.size w wr:=btr HB5.out hb
    have HWB:=hid hwb
    clear hwb
    by_cases hlt:j+1<p
    ·have hj1:j+1<c.length:=by have:=HPL.out;omega
     have hj0:j<c.length:=by omega
     obtain ⟨b,off,rfl,hbl,d0⟩:=(VC.out.below hb).int j hj0
     obtain ⟨b',off',e',hbl',d1⟩:=(VC.out.below hb).int (j+1) hj1
     cases e'
     have g0:=hid (getD_at hj0);have g1:=hid (getD_at hj1)
     obtain ⟨x,hx⟩:∃ x,c[j]=x:=⟨_,rfl⟩
     obtain ⟨y,hy⟩:∃ y,c[j+1]=y:=⟨_,rfl⟩
     rw [hx] at d0 g0
     rw [hy] at d1 g1
     have i0:(0:Int)≤(j:Int):=by omega
     obtain ⟨b1,hb1⟩:∃ b1,inSpB l1 x=b1:=⟨_,rfl⟩
     obtain ⟨b2,hb2⟩:∃ b2,inSpB l2 x=b2:=⟨_,rfl⟩
     have I1:=hid fun W (hW:Below w.heap.size w W)=>HI1.out W x hW
     have I2:=hid fun W (hW:Below w.heap.size w W)=>HI2.out W x hW
     rw [hb1] at I1
     rw [hb2] at I2
     obtain ⟨d,hd⟩:∃ d,f b1 b2=d:=⟨_,rfl⟩
     have FF:=hid fun W (hW:Below w.heap.size w W)=>HF.out W hW b1 b2
     rw [hd] at FF
     have KX:RowKit.Hid ((f (inSpB l1 (c.getD (j+1 - 1) 0)) (inSpB l2 (c.getD (j+1 - 1) 0))=true)↔d=true):=by
      show _↔_
      rw [Nat.add_sub_cancel,g0.out,hb1,hb2,hd]
     clear hb1 hb2 hd hx hy hj0 hj1
     have SPI:=hid hsp;have HBB:=hid hb
     clear hsp hb
     cases d with
     | false =>
      obtain ⟨a6,c6,rfl,-,-,-⟩:=own_form hown
      have OWN:=hid hown
      clear hown
      go_wp2_with (first
       | (go_at_call 207;first | ((with_reducible refine (I1.out _ (by (repeat (with_reducible first | exact HWB.out | exact Below.refl _ _ | refine bdr ?_ | refine bdn ?_ _ | refine bal ?_ _)))).mono ?_);rintro e w4 ⟨rfl,hb4⟩;have HWB4:=hid (btr HWB.out hb4)) | ((with_reducible refine (I2.out _ HWB4.out).mono ?_);rintro e w5 ⟨rfl,hb5⟩;have HWB5:=hid (btr HWB4.out hb5)))
       | (go_at_fn g;refine (FF.out _ HWB5.out).mono ?_;rintro e w6 ⟨rfl,hb6⟩))
      have b36:=hid (btr hb4 (btr hb5 hb6):Below wr.heap.size wr w6)
      go_roundw
      case rel=>exact ⟨j+1+1,out,by omega,.inl (by have:=HPL.out;omega),by go_num,SPI.out.skip ASC.out (by omega) (by have:=HPL.out;omega) (fun h=>by have:=KX.out.1 h;cases this),by omega,own_keep OWN.out b36.out,btr HBB.out b36.out⟩
      case measure=>simp [intOf];omega
     | true =>
      have K1:RowKit.Hid (f (inSpB l1 (c.getD (j+1 - 1) 0)) (inSpB l2 (c.getD (j+1 - 1) 0))=true):=KX.out.2 rfl
      rcases List.eq_nil_or_concat out with rfl | ⟨o,u,rfl⟩
      ·obtain ⟨a6,c6,rfl,-,-,-⟩:=own_form hown
       have OWN:=hid hown
       clear hown
       go_wp2_with (first
       | (go_at_call 207;first | ((with_reducible refine (I1.out _ (by (repeat (with_reducible first | exact HWB.out | exact Below.refl _ _ | refine bdr ?_ | refine bdn ?_ _ | refine bal ?_ _)))).mono ?_);rintro e w4 ⟨rfl,hb4⟩;have HWB4:=hid (btr HWB.out hb4)) | ((with_reducible refine (I2.out _ HWB4.out).mono ?_);rintro e w5 ⟨rfl,hb5⟩;have HWB5:=hid (btr HWB4.out hb5)))
       | (go_at_fn g;refine (FF.out _ HWB5.out).mono ?_;rintro e w6 ⟨rfl,hb6⟩;have b36:=btr hb4 (btr hb5 hb6);have x0:=bc1 b36 d0;have x1:=bc1 b36 d1;have yy:=World.block_lt_of_cell? w6 _ x1;have B6:=hid b36;have O6:=hid (own_keep OWN.out b36);have y6:w3.heap.size≤w6.heap.size:=(by have:=HBB.out.size;have:=b36.size;omega))
       | (at_builtin;refine app_list elSp rfl _ _ rfl w3.heap.size _ (0) _ rfl (own_keep O6.out Bw.out) _ 1 _ (encSp (x,y)) rfl (by first | exact vw_blk (Blk.fresh (by simp)) | exact vw_blk (Blk.fresh (by simp)).drew) (by simp) rfl (oneC_sp _) (by omega) (by simp;omega) ?_;intro v7 w7 hown7 hg7 _;obtain ⟨a7,c7,rfl,-,-,-⟩:=own_form hown7))
       go_roundw
       case rel=>exact ⟨j+1+1,[(x,y)],by omega,.inl (by have:=HPL.out;omega),by go_num,by have h:=SPI.out.add ASC.out (by omega) (by have:=HPL.out;omega) K1.out (fun t ht=>by cases ht);rw [Nat.add_sub_cancel,g0.out,g1.out] at h;exact h,by simp,hown7,below_app (own_keep O6.out Bw.out) (btr HBB.out (btr B6.out Bw.out)) hg7⟩
       case measure=>simp [intOf];omega
      ·simp only [List.concat_eq_append] at hown hol SPI
       have el:(o++[u]).length=o.length+1:=by simp
       rw [el] at hown hol
       obtain ⟨g6,c6,rfl,hgc,hgm,hg0,hgl⟩:=own_some hown
       obtain ⟨q,hq⟩:∃ q,o.length=q:=⟨_,rfl⟩
       have hu:wr.cell? ⟨g6,q * 2+1,none⟩=some (.int .i64 u.2):=by
        rw [hown.cellAt _ (by omega),← hq]
        rw [spCells_snoc,List.getElem?_append_right (by rw [cellsOf_length encSp_len];omega),cellsOf_length encSp_len,show o.length * 2+1 - o.length * 2=1 by omega];rfl
       have OWN:=hid hown;have HQ:=hid hq
       rw [hq] at OWN hol hgc ⊢
       clear hown hq
       unfold maxLen at hgm
       obtain ⟨u0,u1⟩:=u
       dsimp only at hu
       have i1:(0:Int)<(q:Int)+1:=by omega
       have i2:(0:Int)≤(q:Int):=by omega
       by_cases hux:u1=x
       ·subst hux
        have m1:((u1:Int) == u1)=true:=by simp
        go_wp2_with (first
       | (go_at_call 207;first | ((with_reducible refine (I1.out _ (by (repeat (with_reducible first | exact HWB.out | exact Below.refl _ _ | refine bdr ?_ | refine bdn ?_ _ | refine bal ?_ _)))).mono ?_);rintro e w4 ⟨rfl,hb4⟩;have HWB4:=hid (btr HWB.out hb4)) | ((with_reducible refine (I2.out _ HWB4.out).mono ?_);rintro e w5 ⟨rfl,hb5⟩;have HWB5:=hid (btr HWB4.out hb5)))
       | (go_at_fn g;refine (FF.out _ HWB5.out).mono ?_;rintro e w6 ⟨rfl,hb6⟩;have b36:=btr hb4 (btr hb5 hb6);have x0:=bc1 b36 d0;have x1:=bc1 b36 d1;have yy:=World.block_lt_of_cell? w6 _ x1;have B6:=hid b36;have O6:=hid (own_keep OWN.out b36);have y6:w3.heap.size≤w6.heap.size:=(by have:=HBB.out.size;have:=b36.size;omega);have z1:=bc1 b36 hu;have z2:w6.frozen? ⟨g6,q * 2+1,none⟩=false:=O6.out.frozenAt _;have z3:=World.block_lt_of_cell? w6 _ z1))
        go_roundw
        case rel =>
         have hst:=O6.out.stored (q * 2+1) (.int .i64 y)
         have es:=spCells_set o (u0,u1) y
         rw [HQ.out] at es
         rw [es] at hst
         refine ⟨j+1+1,o++[(u0,y)],by omega,.inl (by have:=HPL.out;omega),by go_num,?_,by have:=HQ.out;simp;omega,?_,below_put O6.out (btr HBB.out B6.out) _ _⟩
         ·have h:=SPI.out.join ASC.out (by omega) (by have:=HPL.out;omega) K1.out (by rw [Nat.add_sub_cancel,g0.out])
          rw [g1.out] at h
          exact h
         ·rw [show (o++[(u0,y)]).length=q+1 by have:=HQ.out;simp;omega]
          exact hst.1
        case measure=>simp [intOf];omega
       ·have m1:((u1:Int) == x)=false:=by simpa using hux
        go_wp2_with (first
       | (go_at_call 207;first | ((with_reducible refine (I1.out _ (by (repeat (with_reducible first | exact HWB.out | exact Below.refl _ _ | refine bdr ?_ | refine bdn ?_ _ | refine bal ?_ _)))).mono ?_);rintro e w4 ⟨rfl,hb4⟩;have HWB4:=hid (btr HWB.out hb4)) | ((with_reducible refine (I2.out _ HWB4.out).mono ?_);rintro e w5 ⟨rfl,hb5⟩;have HWB5:=hid (btr HWB4.out hb5)))
       | (go_at_fn g;refine (FF.out _ HWB5.out).mono ?_;rintro e w6 ⟨rfl,hb6⟩;have b36:=btr hb4 (btr hb5 hb6);have x0:=bc1 b36 d0;have x1:=bc1 b36 d1;have yy:=World.block_lt_of_cell? w6 _ x1;have B6:=hid b36;have O6:=hid (own_keep OWN.out b36);have y6:w3.heap.size≤w6.heap.size:=(by have:=HBB.out.size;have:=b36.size;omega);have z1:=bc1 b36 hu;have z3:=World.block_lt_of_cell? w6 _ z1)
       | (at_builtin;refine app_list elSp rfl _ _ rfl w3.heap.size _ (q+1) _ rfl (own_keep O6.out Bw.out) _ 1 _ (encSp (x,y)) rfl (by first | exact vw_blk (Blk.fresh (by simp)) | exact vw_blk (Blk.fresh (by simp)).drew) (by simp) rfl (oneC_sp _) (by omega) (by simp;omega) ?_;intro v7 w7 hown7 hg7 _;obtain ⟨a7,c7,rfl,-,-,-⟩:=own_form hown7))
        go_roundw
        case rel =>
         refine ⟨j+1+1,o++[(u0,u1)]++[(x,y)],by omega,.inl (by have:=HPL.out;omega),by go_num,?_,by have:=HQ.out;simp;omega,?_,below_app (own_keep O6.out Bw.out) (btr HBB.out (btr B6.out Bw.out)) hg7⟩
         ·have h:=SPI.out.add ASC.out (by omega) (by have:=HPL.out;omega) K1.out (fun t ht=>by simp at ht;subst ht;rw [Nat.add_sub_cancel,g0.out];exact hux)
          rw [Nat.add_sub_cancel,g0.out,g1.out] at h
          exact h
         ·rw [spCells_snoc,show (o++[(u0,u1)]++[(x,y)]).length=q+1+1 by have:=HQ.out;simp;omega]
          exact hown7
        case measure=>simp [intOf];omega
    ·have HK:RowKit.Hid (j+1=c.length∨(j=0∧c.length≤1)):=by show _∨_;have:=HPL.out;omega
     obtain ⟨a6,c6,rfl,-,-,-⟩:=own_form hown
     have SPI:=hid hsp;have HBB:=hid hb;have OWN:=hid hown
     clear hsp hb hown
     go_wp2
     go_ret
     have hfin:Gap out∧∀ x,inSp out x↔f (inSpB l1 x) (inSpB l2 x)=true:=by
      refine (SpI.fin SPI.out (by rcases HK.out with h | h;exact .inl (by omega);exact .inr h.1) (by have:=HPL.out;omega)).done (fun k hk z h1 h2=>?_) fun z hz=>?_
      ·have e1:inSpB l1 z=inSpB l1 (c.getD k 0):=by rw [Bool.eq_iff_iff,inSpB_iff,inSpB_iff];exact sp_const ASC.out ED1.out hk h1 h2
       have e2:inSpB l2 z=inSpB l2 (c.getD k 0):=by rw [Bool.eq_iff_iff,inSpB_iff,inSpB_iff];exact sp_const ASC.out ED2.out hk h1 h2
       rw [e1,e2]
      ·cases q1:inSpB l1 z with
       | true=>exact sp_out ASC.out ED1.out ((inSpB_iff _ _).1 q1)
       | false =>
        cases q2:inSpB l2 z with
        | true=>exact sp_out ASC.out ED2.out ((inSpB_iff _ _).1 q2)
        | false=>rw [q1,q2,HFF.out] at hz;cases hz
     exact ⟨out,hfin.1,hfin.2,by have:=HPL.out;omega,_,rfl,own_base OWN.out HB5.out.size,btr HB5.out HBB.out⟩
end Go.Proofs.YtancajcelmhnkaaGreatDoor
