/- The rows at which rectangles begin or end. -/
import Derived.Test.YtancajcelmhnkaaGreatDoorSortw
import Derived.Test.YtancajcelmhnkaaGreatDoorCf
import Derived.Handy
set_option maxRecDepth 100000
set_option maxHeartbeats 4000000
namespace Go.Proofs.YtancajcelmhnkaaGreatDoor
open Go.RowKit Go.Sort Go.Shelf
set_option linter.unusedVariables false
set_option linter.unusedSimpArgs false
structure Sc (α:Type) where
 a:Option Addr
 n:Nat
 c:Nat
 l:List α
def encSc {α:Type} (s:Sc α):List Value:=[.slice s.a s.n s.c]
theorem encSc_len {α:Type} (s:Sc α):(encSc s).length=1:=rfl
def ScOk (w:World) (s:Sc Rc):Prop:=Vw w s.a (rcCells s.l)∧s.l.length=s.n∧s.n≤100000
theorem ScOk.below {w w':World} {s:Sc Rc} (h:ScOk w s) (hb:Below w.heap.size w w'):ScOk w' s:=⟨h.1.below hb,h.2⟩
def edgesY (l:List Rc):List Int:=l.flatMap fun q=>[q.2.1,q.2.2.2]
def allY (ls:List (Sc Rc)):List Int:=ls.flatMap fun s=>edgesY s.l
theorem edgesY_len (l:List Rc):(edgesY l).length=l.length * 2:=by
 induction l with
 | nil=>rfl
 | cons q l ih=>simp [edgesY] at ih ⊢;omega
theorem edgesY_snoc {l:List Rc} {k:Nat} {q:Rc} (h:l[k]? = some q):edgesY (l.take (k+1))=edgesY (l.take k)++[q.2.1,q.2.2.2]:=by
 unfold edgesY;rw [List.take_add_one,h];simp
theorem allY_snoc {l:List (Sc Rc)} {k:Nat} {s:Sc Rc} (h:l[k]? = some s):allY (l.take (k+1))=allY (l.take k)++edgesY s.l:=by
 unfold allY;rw [List.take_add_one,h];simp
theorem allY_len {ls:List (Sc Rc)} (h:∀ s ∈ ls,s.l.length≤100000):(allY ls).length≤ls.length * 200000:=by
 induction ls with
 | nil=>simp [allY]
 | cons s ls ih =>
  have h1:=h s (by simp)
  have h2:=ih (fun s hs=>h s (by simp [hs]))
  have e:(allY (s :: ls)).length=(edgesY s.l).length+(allY ls).length:=by simp [allY]
  rw [e,edgesY_len,List.length_cons];omega
theorem cuts_any (a:Option Addr) (n cap:Nat) (ls:List (Sc Rc)) (w:World) (hV:Vw w a (cellsOf encSc ls)) (hn:ls.length=n) (hc:n≤100) (hS:∀ s ∈ ls,ScOk w s) :
  Calls Tryz.prog 182 #[.slice a n cap] w (NewInt w (ascOf (allY ls))):=by
 have HV:=hid hV;have HN:=hid hn;have HS:=hid hS
 have hall:∀ k,k≤n→(allY (ls.take k)).length≤k * 200000:=fun k hk=>by
  have:=allY_len (ls:=ls.take k) (fun s hs=>by have:=hS s (List.mem_of_mem_take hs);have:=this.2;omega)
  rw [List.length_take] at this
  exact Nat.le_trans this (Nat.mul_le_mul_right _ (Nat.min_le_left _ _))
 have HA:=hid hall
 clear hV hn hS hall
 go_enter Tryz.func182,Tryz.ntmps182
 go_wp2
 go_loopw [3,10] (fun v i wr=>RowW w 3 1 n (fun j=>intCells (allY (ls.take j))) (fun j=>(allY (ls.take j)).length) v i wr) (fun _ i _=>n - (intOf i).toNat)
 case atStart=>exact ⟨0,Nat.zero_le _,rfl,World.ownsRow_nil _ _ _ _,Below.refl _ _⟩
 case round =>
  obtain ⟨k,hk,rfl,hown,hb⟩:=hrel
  dsimp only at hown
  obtain ⟨L0,hL0⟩:∃ L0,allY (ls.take k)=L0:=⟨_,rfl⟩
  have hl0:=HA.out k hk
  rw [hL0] at hown hl0
  have HL0:=hid hL0
  clear hL0
  by_cases hlt:k<n
  ·have hlt':(k:Int)<(n:Int):=by omega
   obtain ⟨a0,cap0,rfl,-,-,-⟩:=own_form hown
   obtain ⟨x,b,off,hx,rfl,hbl,hcx⟩:=(HV.out.below hb).el encSc_len (by omega) k (by have:=HN.out;omega)
   obtain ⟨hxv,hxl,hxn⟩:=HS.out x (List.mem_of_getElem? hx)
   have c0:wr.cell? ⟨b,off+k,none⟩=some (.slice x.a x.n x.c):=by have:=hcx 0 _ rfl;rwa [Nat.mul_one,Nat.add_zero] at this
   have XV:=hid hxv;have XM:=hid hxl;have HX:=hid hx
   clear hx hxv hxl hcx
   obtain ⟨xa,xm,xc,xl⟩:=x
   dsimp only at c0 hxn
   have OWN:=hid hown;have HB:=hid hb
   clear hown hb
   go_wp2
   obtain ⟨wo,rfl⟩:∃ wo:World,wo=wr:=⟨_,rfl⟩
   go_loopw [3,16] (fun v i wx=>RowW w 3 1 xm (fun j=>intCells (L0++edgesY (xl.take j))) (fun j=>(L0++edgesY (xl.take j)).length) v i wx) (fun _ i _=>xm - (intOf i).toNat)
   case atStart=>exact ⟨0,Nat.zero_le _,rfl,by simpa [edgesY] using OWN.out,HB.out⟩
   case round =>
    clear OWN
    obtain ⟨j,hj,rfl,hown,hb⟩:=hrel
    dsimp only at hown
    have hlj:(L0++edgesY (xl.take j)).length≤L0.length+2 * j:=by
     rw [List.length_append,edgesY_len,List.length_take];omega
    obtain ⟨L,hL⟩:∃ L,L0++edgesY (xl.take j)=L:=⟨_,rfl⟩
    rw [hL] at hown hlj
    have HL:=hid hL
    clear hL
    obtain ⟨a1,cap1,rfl,-,-,-⟩:=own_form hown
    by_cases hlt2:j<xm
    ·have hlt2':(j:Int)<(xm:Int):=by omega
     obtain ⟨s,b',off',hs,rfl,hbl',hcs⟩:=(XV.out.below hb).el encRc_len (by omega) j (by have:=XM.out;omega)
     have e0:wr.cell? ⟨b',off'+j * 4,none⟩=_:=hcs 0 _ rfl;have e1:=hcs 1 _ rfl;have e2:=hcs 2 _ rfl;have e3:=hcs 3 _ rfl
     have HS2:=hid hs
     clear hcs hs
     obtain ⟨s0,s1,s2,s3⟩:=s
     dsimp only at e0 e1 e2 e3
     have OWN:=hid hown;have HB2:=hid hb
     clear hown hb
     go_wp2_with (at_builtin;refine app_list elInt rfl _ _ rfl w.heap.size _ L.length (intCells L) rfl ((OWN.out.alloc _).alloc _) _ 2 _ [.int .i64 s1,.int .i64 s3] rfl (vw_blk (Blk.fresh (by simp))) (by simp) rfl (oneC_int [s1,s3]) (by omega) (by have:=HB2.out.size;simp;omega) ?_;intro v2 w2 hown2 hg2 _;obtain ⟨a2,cap2,rfl,-,-,-⟩:=own_form hown2)
     go_roundw
     case rel =>
      have eL:L0++edgesY (xl.take (j+1))=L++[s1,s3]:=by rw [edgesY_snoc HS2.out,← List.append_assoc,HL.out]
      refine ⟨j+1,by omega,by go_num,?_,below_app ((OWN.out.alloc _).alloc _) (bal (bal HB2.out _) _) hg2⟩
      dsimp only
      rw [eL,List.length_append]
      simpa [intCells] using hown2
     case measure=>simp [intOf];omega
    ·have hge2:¬ (j:Int)<(xm:Int):=by omega
     have OWN:=hid hown;have HB2:=hid hb
     clear hown hb
     go_wp2
     go_roundw
     case rel =>
      have hL:=HL.out
      rw [List.take_of_length_le (by have:=XM.out;omega)] at hL
      refine ⟨k+1,by omega,by go_num,?_,HB2.out⟩
      dsimp only
      rw [allY_snoc HX.out,HL0.out]
      dsimp only
      rw [hL]
      exact OWN.out
     case measure=>simp [intOf];omega
  ·have hge:¬ (k:Int)<(n:Int):=by omega
   have e:=HL0.out
   rw [List.take_of_length_le (by have:=HN.out;omega)] at e
   obtain ⟨a0,cap0,ev,-,-,-⟩:=own_form hown
   have OWN:=hid hown;have HB:=hid hb;have HE:=hid e;have HEV:=hid ev
   clear hown hb e ev
   go_wp2_with (first
    | (go_at_call 202;refine (sort_ints _ _ _ _ _ OWN.out (by omega)).mono ?_;rintro e w1 ⟨rfl,hown1,hg1⟩;have HB1:=hid (below_app OWN.out HB.out hg1);have OWN1:=hid hown1;clear hown1 hg1)
    | (go_at_call 203;refine (compact_ints _ _ _ _ _ OWN1.out (by omega)).mono ?_;rintro e w2 ⟨v2,rfl,hown2,hg2⟩;have HB2:=hid (below_app OWN1.out HB1.out hg2);have OWN2:=hid hown2;clear hown2 hg2))
   go_ret
   refine ⟨v2,rfl,?_,HB2.out⟩
   rw [HE.out]
   exact OWN2.out
def rowSp (l:List Rc) (y:Int):List Sp:=(l.filter fun q=>decide (q.2.1≤y∧y<q.2.2.2)).map fun q=>(q.1,q.2.2.1)
theorem rowSp_snoc_yes {l:List Rc} {y:Int} {k:Nat} {q:Rc} (h:l[k]? = some q) (h1:q.2.1≤y) (h2:y<q.2.2.2):rowSp (l.take (k+1)) y=rowSp (l.take k) y++[(q.1,q.2.2.1)]:=by
 unfold rowSp;rw [List.take_add_one,h];simp [h1,h2]
theorem rowSp_snoc_no {l:List Rc} {y:Int} {k:Nat} {q:Rc} (h:l[k]? = some q) (h1:¬ (q.2.1≤y∧y<q.2.2.2)):rowSp (l.take (k+1)) y=rowSp (l.take k) y:=by
 unfold rowSp;rw [List.take_add_one,h];simp at h1 ⊢;exact h1
theorem rowSp_len (l:List Rc) (y:Int):(rowSp l y).length≤l.length:=by
 unfold rowSp;rw [List.length_map];exact List.length_filter_le _ _
theorem rowSp_in (l:List Rc) (y x:Int):inSp (rowSp l y) x↔inRow l y x:=by
 unfold inSp inRow rowSp
 simp only [List.mem_map,List.mem_filter,decide_eq_true_eq]
 constructor
 ·rintro ⟨s,⟨q,⟨h1,h2,h3⟩,rfl⟩,h4,h5⟩;exact ⟨q,h1,h2,h3,h4,h5⟩
 ·rintro ⟨q,h1,h2,h3,h4,h5⟩;exact ⟨_,⟨q,⟨h1,h2,h3⟩,rfl⟩,h4,h5⟩
theorem rowSp_lt {l:List Rc} (h:∀ q ∈ l,q.1<q.2.2.1) (y:Int):∀ s ∈ rowSp l y,s.1<s.2:=by
 intro s hs
 unfold rowSp at hs
 obtain ⟨q,hq,rfl⟩:=List.mem_map.1 hs
 exact h q (List.mem_filter.1 hq).1
theorem spCells_set (o:List Sp) (u:Sp) (r:Int):(spCells (o++[u])).set (o.length * 2+1) (.int .i64 r)=spCells (o++[(u.1,r)]):=by
 rw [spCells_snoc,spCells_snoc,List.set_append_right _ _ (by rw [cellsOf_length encSp_len];omega),cellsOf_length encSp_len,show o.length * 2+1 - o.length * 2=1 by omega]
 rfl
theorem inSp_perm {l m:List Sp} (h:l.Perm m) (x:Int):inSp l x↔inSp m x:=by
 unfold inSp
 exact ⟨fun ⟨s,hs,hx⟩=>⟨s,h.mem_iff.1 hs,hx⟩,fun ⟨s,hs,hx⟩=>⟨s,h.mem_iff.2 hs,hx⟩⟩
def NewRow1 (w:World) (S:Int→Prop) (e:Ending) (w':World):Prop:=∃ s:List Sp,Gap s∧(∀ x,inSp s x↔S x)∧s.length≤100000∧NewSp w s e w'
def NewRow (w:World) (S:Int→Prop) (e:Ending) (w':World):Prop:=∃ s:List Sp,Gap s∧(∀ x,inSp s x↔S x)∧s.length≤1000000∧NewSp w s e w'
def MergeI (w:World) (m:Nat) (l:List Sp) (v i:Value) (wr:World):Prop :=
 ∃ (j:Nat) (out:List Sp),j≤m∧i=.int .i64 j∧Go.Proofs.YtancajcelmhnkaaGreatDoor.RowI (l.take j) out∧out.length≤j∧wr.ownsRow w.heap.size 243 2 v out.length (spCells out)∧Below w.heap.size w wr
theorem row_any1 (a:Option Addr) (n cap:Nat) (l:List Rc) (y:Int) (w:World) (hV:Vw w a (rcCells l)) (hn:l.length=n) (hc:n≤100000) (hp:∀ q ∈ l,q.1<q.2.2.1) :
    Calls Tryz.prog 184 #[.slice a n cap,.int .i64 y] w (NewRow1 w fun x=>inRow l y x):=by
  have HV:=hid hV;have HN:=hid hn;have HP:=hid hp
  clear hV hn hp
  go_enter Tryz.func184,Tryz.ntmps184
  go_wp2
  go_loopw [5,14] (fun v i wr=>RowW w 243 2 n (fun j=>spCells (rowSp (l.take j) y)) (fun j=>(rowSp (l.take j) y).length) v i wr) (fun _ i _=>n - (intOf i).toNat)
  case atStart=>exact ⟨0,Nat.zero_le _,rfl,World.ownsRow_nil _ _ _ _,Below.refl _ _⟩
  case round =>
    obtain ⟨k,hk,rfl,hown,hb⟩:=hrel
    dsimp only at hown
    obtain ⟨L,hL⟩:∃ L,rowSp (l.take k) y=L:=⟨_,rfl⟩
    have hlk:L.length≤k:=by rw [← hL];have:=rowSp_len (l.take k) y;rw [List.length_take] at this;omega
    rw [hL] at hown
    have HL:=hid hL
    clear hL
    by_cases hlt:k<n
    · have hlt':(k:Int)<(n:Int):=by omega
      obtain ⟨a0,cap0,rfl,-,-,-⟩:=own_form hown
      obtain ⟨q,b,off,hq,rfl,hbl,hcq⟩:=(HV.out.below hb).el encRc_len (by omega) k (by have:=HN.out;omega)
      have c0:wr.cell? ⟨b,off+k * 4,none⟩=_:=hcq 0 _ rfl;have c1:=hcq 1 _ rfl;have c2:=hcq 2 _ rfl;have c3:=hcq 3 _ rfl
      have HQ:=hid hq
      clear hq hcq
      obtain ⟨q0,q1,q2,q3⟩:=q
      dsimp only at c0 c1 c2 c3
      have OWN:=hid hown;have HB:=hid hb
      clear hown hb
      go_wp2_with (at_builtin;refine app_list elSp rfl _ _ rfl w.heap.size _ L.length (spCells L) rfl ((OWN.out.alloc _).alloc _) _ 1 _ (encSp (q0,q2)) rfl (vw_blk (Blk.fresh (by simp))) (by simp) rfl (oneC_sp _) (by omega) (by have:=HB.out.size;simp;omega) ?_;intro v2 w2 hown2 hg2 _;obtain ⟨a2,cap2,rfl,-,-,-⟩:=own_form hown2)
      all_goals go_roundw
      all_goals first
        | (case rel =>
             first
             | (have eL:rowSp (l.take (k+1)) y=L++[(q0,q2)]:=by rw [rowSp_snoc_yes HQ.out (by assumption) (by assumption),HL.out]
                refine ⟨k+1,by omega,by go_num,?_,below_app ((OWN.out.alloc _).alloc _) (bal (bal HB.out _) _) hg2⟩
                dsimp only
                rw [eL,spCells_snoc,List.length_append]
                exact hown2)
             | (have eL:rowSp (l.take (k+1)) y=L:=by rw [rowSp_snoc_no HQ.out (by dsimp only;omega),HL.out]
                refine ⟨k+1,by omega,by go_num,?_,bal HB.out _⟩
                dsimp only
                rw [eL]
                exact OWN.out.alloc _))
        | (case measure=>simp [intOf];omega)
    · have hge:¬ (k:Int)<(n:Int):=by omega
      have e:=HL.out
      rw [List.take_of_length_le (by have:=HN.out;omega)] at e
      have hS1:∀ x,inSp L x↔inRow l y x:=fun x=>by rw [← e];exact rowSp_in l y x
      have hS2:∀ s ∈ L,s.1<s.2:=by rw [← e];exact rowSp_lt HP.out y
      obtain ⟨a0,cap0,ev,-,-,-⟩:=own_form hown
      subst ev
      have OWN:=hid hown;have HB:=hid hb;have H1:=hid hS1;have H2:=hid hS2
      clear hown hb e hS1 hS2
      obtain ⟨m,hm⟩:∃ m,L.length=m:=⟨_,rfl⟩
      rw [hm] at OWN hlk ⊢
      have HM:=hid hm
      clear hm
      go_wp2_with (go_at_call 204;refine (sort_spans _ _ _ _ _ OWN.out (by omega)).mono ?_;rintro e w1 ⟨rfl,l',hperm,hsort,hown1,hg1⟩;have HB1:=hid (below_app OWN.out HB.out hg1);have OWN1:=hid hown1;have PERM:=hid hperm;have SORT:=hid hsort;clear hown1 hg1 hperm hsort)
      have VA:=hid (vw_of_own OWN1.out)
      have HL1:RowKit.Hid (l'.length=m):=by have:=OWN1.out.1;show _=_;rw [cellsOf_length encSp_len] at this;omega
      clear OWN1 HV HL HP
      go_loopw [8,41] (fun v i wr=>MergeI w1 m l' v i wr) (fun _ i _=>m - (intOf i).toNat)
      case atStart=>exact ⟨0,[],Nat.zero_le _,rfl,by simpa using RowI.nil,Nat.zero_le _,World.ownsRow_nil _ _ _ _,Below.refl _ _⟩
      case round =>
        obtain ⟨j,out,hj,rfl,hri,hol,hown,hb⟩:=hrel
        by_cases hlt2:j<m
        · have hlt2':(j:Int)<(m:Int):=by omega
          obtain ⟨s,b',off',hs,rfl,hbl',hcs⟩:=(VA.out.below hb).el encSp_len (by omega) j (by have:=HL1.out;omega)
          have e0:wr.cell? ⟨b',off'+j * 2,none⟩=_:=hcs 0 _ rfl;have e1:=hcs 1 _ rfl
          have htk:l'.take (j+1)=l'.take j++[s]:=by rw [List.take_add_one,hs];rfl
          have hs12:s.1<s.2:=H2.out s (PERM.out.mem_iff.1 (List.mem_of_getElem? hs))
          have hsl:∀ q ∈ l'.take j,q.1≤s.1:=fun q hq=>by
            obtain ⟨i,hi,rfl⟩:=List.getElem_of_mem hq
            have hi2:=hi
            rw [List.length_take] at hi2
            have hj':j<l'.length:=by have:=HL1.out;omega
            have:=List.pairwise_iff_getElem.1 SORT.out i j (by omega) hj' (by omega)
            rw [List.getElem?_eq_getElem hj'] at hs
            cases hs
            simpa using this
          have TK:=hid htk;have SL:=hid hsl;have RI:=hid hri
          clear hcs hs htk hsl hri
          obtain ⟨s0,s1⟩:=s
          dsimp only at e0 e1 hs12
          rcases List.eq_nil_or_concat out with rfl | ⟨o,u,rfl⟩
          · obtain ⟨a1,cap1,rfl,-,-,-⟩:=own_form hown
            have OWN:=hid hown;have HB2:=hid hb
            clear hown hb
            go_wp2
            go_quiet (fail)
            go_wp2_with (at_builtin;refine app_list elSp rfl _ _ rfl w1.heap.size _ 0 [] rfl (own_keep OWN.out Bw.out) _ 1 _ (encSp (s0,s1)) rfl (by first | exact vw_blk (Blk.fresh (by simp)) | exact vw_blk (Blk.fresh (by simp)).drew) (by simp) rfl (oneC_sp _) (by omega) (by have:=HB2.out.size;simp;omega) ?_;intro v2 w2 hown2 hg2 _;have HB3:=hid (below_app (own_keep OWN.out Bw.out) (by (repeat (with_reducible first | exact HB2.out | exact Below.refl _ _ | refine bdr ?_ | refine bdn ?_ _ | refine bal ?_ _))) hg2);obtain ⟨a2,cap2,rfl,-,-,-⟩:=own_form hown2)
            go_roundw
            case rel=>exact ⟨j+1,[(s0,s1)],by omega,by go_num,by rw [TK.out];exact RI.out.start hs12,by simp,hown2,HB3.out⟩
            case measure=>simp [intOf];omega
          · simp only [List.concat_eq_append] at hown hol RI
            have el:(o++[u]).length=o.length+1:=by simp
            rw [el] at hown hol
            obtain ⟨g,cap1,rfl,hgc,hgm,hg0,hgl⟩:=own_some hown
            obtain ⟨p,hp⟩:∃ p,o.length=p:=⟨_,rfl⟩
            have hu:wr.cell? ⟨g,p * 2+1,none⟩=some (.int .i64 u.2):=by
              rw [hown.cellAt _ (by omega),← hp]
              rw [spCells_snoc,List.getElem?_append_right (by rw [cellsOf_length encSp_len];omega),cellsOf_length encSp_len,show o.length * 2+1 - o.length * 2=1 by omega];rfl
            have hf:wr.frozen? ⟨g,p * 2+1,none⟩=false:=hown.frozenAt _
            have OWN:=hid hown;have HB2:=hid hb;have HPp:=hid hp
            rw [hp] at OWN hol hgc ⊢
            clear hown hb hp
            unfold maxLen at hgm
            obtain ⟨u0,u1⟩:=u
            dsimp only at hu
            have i1:(0:Int)<(p:Int)+1:=by omega
            have i2:(0:Int)≤(p:Int):=by omega
            by_cases hle:s0≤u1
            · go_wp2
              go_quiet (fail)
              go_wp2
              go_region
              all_goals
                go_wp2
                go_roundw
                case rel =>
                  have hK:=own_keep OWN.out (show Below wr.heap.size wr ((wr.alloc (Obj.cells #[Value.int .i64 s0,Value.int .i64 s1] 243)).drewN (nq+1)) from Bw.out)
                  have hst:=hK.stored (p * 2+1) (.int .i64 (max u1 s1))
                  have es:=spCells_set o (u0,u1) (max u1 s1)
                  rw [HPp.out] at es
                  rw [es] at hst
                  refine ⟨j+1,o++[(u0,max u1 s1)],by omega,by go_num,by rw [TK.out];exact RI.out.meet hs12 SL.out hle,by have:=HPp.out;simp;omega,?_,below_put hK (by (repeat (with_reducible first | exact HB2.out | exact Below.refl _ _ | refine bdr ?_ | refine bdn ?_ _ | refine bal ?_ _))) _ _⟩
                  rw [show (o++[(u0,max u1 s1)]).length=p+1 by have:=HPp.out;simp;omega]
                  exact hst.1
                case measure=>simp [intOf];omega
            · go_wp2
              go_quiet (fail)
              go_wp2_with (at_builtin;refine app_list elSp rfl _ _ rfl w1.heap.size _ (p+1) _ rfl (own_keep OWN.out Bw.out) _ 1 _ (encSp (s0,s1)) rfl (by first | exact vw_blk (Blk.fresh (by simp)) | exact vw_blk (Blk.fresh (by simp)).drew) (by simp) rfl (oneC_sp _) (by omega) (by have:=HB2.out.size;simp;omega) ?_;intro v2 w2 hown2 hg2 _;have HB3:=hid (below_app (own_keep OWN.out Bw.out) (by (repeat (with_reducible first | exact HB2.out | exact Below.refl _ _ | refine bdr ?_ | refine bdn ?_ _ | refine bal ?_ _))) hg2);obtain ⟨a2,cap2,rfl,-,-,-⟩:=own_form hown2)
              go_roundw
              case rel =>
                refine ⟨j+1,o++[(u0,u1)]++[(s0,s1)],by omega,by go_num,by rw [TK.out];exact RI.out.apart hs12 (by dsimp only;omega),by have:=HPp.out;simp;omega,?_,HB3.out⟩
                rw [spCells_snoc,show (o++[(u0,u1)]++[(s0,s1)]).length=p+1+1 by have:=HPp.out;simp;omega]
                exact hown2
              case measure=>simp [intOf];omega
        · have hge2:¬ (j:Int)<(m:Int):=by omega
          obtain ⟨a1,cap1,rfl,-,-,-⟩:=own_form hown
          have OWN:=hid hown;have HB2:=hid hb;have RI:=hid hri
          clear hown hb hri
          go_wp2
          go_ret
          have e:l'.take j=l':=List.take_of_length_le (by have:=HL1.out;omega)
          have h:=RI.out
          rw [e] at h
          refine ⟨out,h.1,fun x=>(h.2.1 x).trans ((inSp_perm PERM.out x).trans (H1.out x)),by omega,_,rfl,own_base OWN.out HB1.out.size,btr HB1.out HB2.out⟩
theorem row_any (a:Option Addr) (n cap:Nat) (l:List Rc) (y:Int) (w:World) (hV:Vw w a (rcCells l)) (hn:l.length=n) (hc:n≤100000) (hp:∀ q ∈ l,q.1<q.2.2.1) :
  Calls Tryz.prog 184 #[.slice a n cap,.int .i64 y] w (NewRow w fun x=>inRow l y x) :=
 (row_any1 a n cap l y w hV hn hc hp).mono fun e w' ⟨s,h1,h2,h3,h4⟩=>⟨s,h1,h2,by omega,h4⟩
def inSpB (l:List Sp) (x:Int):Bool:=l.any fun s=>decide (s.1≤x∧x<s.2)
theorem inSpB_iff (l:List Sp) (x:Int):inSpB l x=true↔inSp l x:=by
 unfold inSpB inSp
 rw [List.any_eq_true]
 constructor
 ·rintro ⟨q,hq,h⟩;exact ⟨q,hq,of_decide_eq_true h⟩
 ·rintro ⟨q,hq,h⟩;exact ⟨q,hq,decide_eq_true h⟩
theorem inside1_any (s:Sp) (bx:Nat) (x:Int) (w:World) (hc:w.cell? ⟨bx,0,none⟩=some (.int .i64 x)) :
  Calls Tryz.prog 218 #[.agg #[.int .i64 s.1,.int .i64 s.2],.pointer (some ⟨bx,0,none⟩)] w fun e w'=>e=.returned (.bool (decide (s.1≤x∧x<s.2)))∧Below w.heap.size w w':=by
 obtain ⟨s0,s1⟩:=s
 dsimp only
 have hc2:(w.alloc (.cells #[.int .i64 s0,.int .i64 s1] 243)).cell? ⟨bx,0,none⟩=some (.int .i64 x):=bc1 Bw.out hc
 clear hc
 go_enter Tryz.func218,Tryz.ntmps218
 go_wp2
 all_goals
  go_ret
  exact ⟨ret_bool (by first | rfl | exact (Bool.decide_and _ _).symm | (simp [*];done) | (simp;omega)),Bw.out⟩
theorem enters_inside1:Enters 218:=enters_of Tryz.func218 (by kernel_rfl) rfl
theorem pinside_any (a:Option Addr) (n cap:Nat) (l:List Sp) (x:Int) (w:World) (hV:Vw w a (spCells l)) (hn:l.length=n) (hm:n≤9223372036854775807) :
  Calls Tryz.prog 207 #[.slice a n cap,.int .i64 x] w fun e w'=>e=.returned (.bool (inSpB l x))∧Below w.heap.size w w':=by
 have H:RowKit.Hid (∀ W:World,Below w.heap.size w W→W.cell? ⟨w.heap.size,0,none⟩=some (.int .i64 x)→Calls Tryz.prog 217 #[.slice a n cap,.func (.func 218) #[] #[.pointer (some ⟨w.heap.size,0,none⟩)]] W fun e w'=>e=.returned (.bool (inSpB l x))∧Below W.heap.size W w'):=fun W hW hc =>
  cfSp encSp _ _ enters_inside1 a n cap l _ W (hV.below hW) hn hm (fun _ _=>rfl) fun W' hW' s _=>inside1_any s _ x W' (bc1 hW' hc)
 clear hV
 go_enter Tryz.func207,Tryz.ntmps207
 go_wp2_with (go_at_call 217;refine (H.out _ Bw.out (by simp [go_sem])).mono ?_;rintro e w1 ⟨rfl,hb1⟩)
 go_ret
 exact ⟨rfl,btr Bw.out hb1⟩
theorem growSp (n:Nat) (w:World) (hn:n≤1000000000):Calls Tryz.prog 216 #[.slice none 0 0,.int .i64 n] w fun e w'=>∃ v,e=.returned v∧w'.ownsRow w.heap.size 243 2 v 0 []∧Below w.heap.size w w':=by
 by_cases h0:n=0
 ·subst h0
  refine (Any8.slices_Grow_room Tryz.grSpan none 0 0 0 w (by omega) (by omega) (by omega) (by omega)).mono ?_
  rintro e w' ⟨rfl,rfl⟩
  exact ⟨_,rfl,World.ownsRow_nil _ _ _ _,Below.refl _ _⟩
 ·obtain ⟨i0,hi,hz0,hz1,hz2⟩:=info_parts infoSp
  refine (Any8.slices_Grow_grow Tryz.grSpan i0 _ hi hz0 (by rw [hz1];decide) none 0 0 n [] w (by omega) (by omega) (by rw [hz2];omega) (by omega) (by simp) (fun _=>rfl) (fun _ h=>by cases h)).mono ?_
  rintro e w' ⟨rfl,rfl⟩
  refine ⟨_,rfl,⟨rfl,.inr ⟨w.heap.size,_,_,rfl,Nat.le_refl _,(heap_alloc_new w.drew _),Nat.zero_le _,grownCap_le_maxLen w _ _ _ (by unfold maxLen;omega),?_,by simp⟩⟩,bal (bdr (Below.refl _ _)) _⟩
  have:=grownCap_ge w n 0 (Tryz.grSpan_ren.t 25)
  simp [size_zeroCells,Value.cells]
  omega
def catK (l1 l2:List Sp):Nat→List Sp
 | 0=>[]
 | 1=>l1
 | _=>l1++l2
theorem concat_sp (b:Nat) (a1:Option Addr) (n1 c1:Nat) (l1:List Sp) (a2:Option Addr) (n2 c2:Nat) (l2:List Sp) (w:World) (hS:Blk w b 226 #[.slice a1 n1 c1,.slice a2 n2 c2]) (h1:Vw w a1 (spCells l1)) (e1:l1.length=n1) (k1:n1≤1000000) (z1:a1=none→n1=0) (h2:Vw w a2 (spCells l2)) (e2:l2.length=n2) (k2:n2≤1000000) (z2:a2=none→n2=0) :
  Calls Tryz.prog 206 #[.slice (some ⟨b,0,none⟩) 2 2] w (NewSp w (l1++l2)):=by
 have x0:w.cell? ⟨b,0,none⟩=some (.slice a1 n1 c1):=hS.cell 0
 have x1:w.cell? ⟨b,1,none⟩=some (.slice a2 n2 c2):=hS.cell 1
 have HX0:=hid x0;have HX1:=hid x1
 have H1:=hid h1;have H2:=hid h2;have HB:=hid hS;have E1:=hid e1;have E2:=hid e2
 have q1:¬ (n1:Int)<0:=by omega
 have q2:¬ (n1:Int)+(n2:Int)<0:=by omega
 have O1:RowKit.Hid (OneC (spCells l1)):=oneC_cells oneC_sp l1
 have O2:RowKit.Hid (OneC (spCells l2)):=oneC_cells oneC_sp l2
 have L1:RowKit.Hid ((spCells l1).length=n1 * 2):=by show _=_;rw [cellsOf_length encSp_len,e1]
 have L2:RowKit.Hid ((spCells l2).length=n2 * 2):=by show _=_;rw [cellsOf_length encSp_len,e2]
 have GR:RowKit.Hid (∀ W:World,Calls Tryz.prog 216 #[.slice none 0 0,.int .i64 ((n1:Int)+n2)] W fun e w'=>∃ v,e=.returned v∧w'.ownsRow W.heap.size 243 2 v 0 []∧Below W.heap.size W w'):=fun W=>by
  have:=growSp (n1+n2) W (by omega)
  rwa [Int.natCast_add] at this
 clear h1 h2 hS e1 e2
 go_enter Tryz.func206,Tryz.ntmps206
 go_wp2
 go_loop [3,11] (fun s i=>(i=.int .i64 0∧s=.int .i64 0)∨(i=.int .i64 1∧s=.int .i64 n1)∨(i=.int .i64 2∧s=.int .i64 ((n1:Int)+n2))) (fun _ i=>2 - (intOf i).toNat)
 case atStart=>exact .inl ⟨rfl,rfl⟩
 case round =>
  rcases hrel with ⟨rfl,rfl⟩ | ⟨rfl,rfl⟩ | ⟨rfl,rfl⟩
  ·go_wp2
   go_round
   case rel=>exact .inr (.inl ⟨rfl,rfl⟩)
   case measure=>simp [intOf]
  ·go_wp2
   go_round
   case rel=>exact .inr (.inr ⟨rfl,rfl⟩)
   case measure=>simp [intOf]
  ·clear x0 x1
   go_wp2_with (go_at_call 216;refine (GR.out _).mono ?_;rintro e w1 ⟨v,rfl,hown,hb1⟩)
   go_loopw [6,27] (fun v i wr=>∃ k:Nat,k≤2∧i=.int .i64 k∧wr.ownsRow w.heap.size 243 2 v (catK l1 l2 k).length (spCells (catK l1 l2 k))∧Below w.heap.size w wr) (fun _ i _=>2 - (intOf i).toNat)
   case atStart=>exact ⟨0,by omega,rfl,hown,hb1⟩
   case round =>
    obtain ⟨k,hk,rfl,ho,hb⟩:=hrel
    have HO:=hid ho;have HBB:=hid hb
    have yb:=hb.size
    obtain ⟨a0,c0,rfl,-,-,-⟩:=own_form ho
    have x0:=bc1 hb HX0.out
    have x1:=bc1 hb HX1.out
    clear ho hb hown hb1
    by_cases k0:k=0
    ·subst k0
     go_wp2_with (at_builtin;refine app_list elSp rfl _ _ rfl w.heap.size _ 0 [] rfl HO.out a1 n1 c1 (spCells l1) rfl (H1.out.below HBB.out) z1 L1.out O1.out (by omega) yb ?_;intro v2 w2 hown2 hg2 _)
     go_roundw
     case rel=>exact ⟨1,by omega,rfl,by simpa [catK,E1.out] using hown2,below_app HO.out HBB.out hg2⟩
     case measure=>simp [intOf]
    ·by_cases k9:k=1
     ·subst k9
      go_wp2_with (at_builtin;refine app_list elSp rfl _ _ rfl w.heap.size _ l1.length (spCells l1) rfl HO.out a2 n2 c2 (spCells l2) rfl (H2.out.below HBB.out) z2 L2.out O2.out (by have:=E1.out;omega) yb ?_;intro v2 w2 hown2 hg2 _)
      go_roundw
      case rel=>exact ⟨2,by omega,rfl,by simpa [catK,E2.out,cellsOf_append] using hown2,below_app HO.out HBB.out hg2⟩
      case measure=>simp [intOf]
     ·obtain rfl:k=2:=by omega
      go_wp2
      go_ret
      exact ⟨_,rfl,HO.out,HBB.out⟩
end Go.Proofs.YtancajcelmhnkaaGreatDoor
