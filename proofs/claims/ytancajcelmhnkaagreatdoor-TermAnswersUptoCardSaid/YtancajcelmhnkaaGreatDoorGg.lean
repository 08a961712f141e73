/- region.Choose: the canonical rectangles of the squares that are chosen. -/
import Derived.Test.YtancajcelmhnkaaGreatDoorMerge
set_option maxRecDepth 100000
set_option maxHeartbeats 4000000
namespace Go.Proofs.YtancajcelmhnkaaGreatDoor
open Go.RowKit Go.Sort Go.Shelf
set_option linter.unusedVariables false
set_option linter.unusedSimpArgs false
def Wide (l:List Rc):Prop:=∀ q ∈ l,q.1<q.2.2.1
theorem own_nil {w:World} {base n cap size:Nat} {e:TypeId} {a:Option Addr} {xs:List Value} (h:w.ownsRow base e size (.slice a n cap) n xs):a=none→n=0:=by
 rintro rfl
 rcases h.2 with ⟨_,h⟩ | ⟨g,cap',cur,hv,_⟩
 ·exact h
 ·cases hv
theorem chrow_any (b1 b2 b3:Nat) (s1 s2:Sc Rc) (g:Nat) (lb:Array Value) (eg:Enters g) (f:Bool→Bool→Bool) (y:Int) (w:World) (c1:w.cell? ⟨b1,0,none⟩=some (.slice s1.a s1.n s1.c)) (c2:w.cell? ⟨b2,0,none⟩=some (.slice s2.a s2.n s2.c)) (c3:w.cell? ⟨b3,0,none⟩=some (.func (.func g) #[] lb))
  (h1:ScOk w s1) (h2:ScOk w s2) (p1:Wide s1.l) (p2:Wide s2.l) (hf:Chooses w g lb f) (hff:f false false=false) :
  Calls Tryz.prog 185 (#[.int .i64 y]++#[.pointer (some ⟨b1,0,none⟩),.pointer (some ⟨b2,0,none⟩),.pointer (some ⟨b3,0,none⟩)]) w (NewRow w fun x=>f (insB s1.l x y) (insB s2.l x y)=true):=by
 obtain ⟨a1,n1,k1,l1⟩:=s1
 obtain ⟨a2,n2,k2,l2⟩:=s2
 dsimp only at c1 c2 p1 p2 ⊢
 have R1:RowKit.Hid (∀ W,Below w.heap.size w W→Calls Tryz.prog 184 #[.slice a1 n1 k1,.int .i64 y] W (NewRow1 W fun x=>inRow l1 y x)):=fun W hW=>row_any1 a1 n1 k1 l1 y W (h1.1.below hW) h1.2.1 h1.2.2 p1
 have R2:RowKit.Hid (∀ W,Below w.heap.size w W→Calls Tryz.prog 184 #[.slice a2 n2 k2,.int .i64 y] W (NewRow1 W fun x=>inRow l2 y x)):=fun W hW=>row_any1 a2 n2 k2 l2 y W (h2.1.below hW) h2.2.1 h2.2.2 p2
 have HF:=hid hf
 have e1:=World.block_lt_of_cell? w _ c1
 have e2:=World.block_lt_of_cell? w _ c2
 have e3:=World.block_lt_of_cell? w _ c3
 clear h1 h2 hf p1 p2
 show Calls Tryz.prog 185 #[.int .i64 y,.pointer (some ⟨b1,0,none⟩),.pointer (some ⟨b2,0,none⟩),.pointer (some ⟨b3,0,none⟩)] w _
 go_enter Tryz.func185,Tryz.ntmps185
 go_wp2
 go_region_held3 (fun w'=>w'.cell? ⟨b1,0,none⟩=some (.slice a1 n1 k1)∧w'.cell? ⟨b2,0,none⟩=some (.slice a2 n2 k2)∧w'.cell? ⟨b3,0,none⟩=some (.func (.func g) #[] lb)) (first | exact ⟨c1,c2,c3⟩ | exact ⟨d1,d2,d3⟩ | exact ⟨m1,m2,m3⟩ | exact ⟨r1,r2,r3⟩ | simp [go_sem, *])
  (first
  | (go_at_call 184;(with_reducible refine (R1.out _ Bw.out).mono ?_);rintro e w4 ⟨sp1,gp1,in1,ln1,v1,rfl,own1,hb1⟩;obtain ⟨av1,cv1,rfl,-,-,-⟩:=own_form own1;have d1:=bc1 (btr Bw.out hb1) c1;have d2:=bc1 (btr Bw.out hb1) c2;have d3:=bc1 (btr Bw.out hb1) c3;have HB1:=hid (btr Bw.out hb1:Below w.heap.size w w4))
  | (go_at_call 184;(with_reducible refine (R2.out _ (by (repeat (with_reducible first | exact HB1.out | exact Below.refl _ _ | refine bdr ?_ | refine bdn ?_ _ | refine bal ?_ _)))).mono ?_);rintro e w5 ⟨sp2,gp2,in2,ln2,v2,rfl,own2,hb2⟩;obtain ⟨av2,cv2,rfl,-,-,-⟩:=own_form own2;have m1:=bc1 (btr Bw.out hb2) d1;have m2:=bc1 (btr Bw.out hb2) d2;have m3:=bc1 (btr Bw.out hb2) d3;have HB2:=hid (btr HB1.out (btr Bw.out hb2):Below w.heap.size w w5);have O1:=hid (own_keep own1 (btr Bw.out hb2)))
  | (go_at_call 186;refine (merge_any av1 sp1.length cv1 sp1 av2 sp2.length cv2 sp2 g lb eg f _ ((vw_of_own O1.out).below Bw.out) rfl ln1 (own_nil own1) ((vw_of_own own2).below Bw.out) rfl ln2 (own_nil own2) (fun W hW p q=>HF.out W (btr (by (repeat (with_reducible first | exact HB2.out | exact Below.refl _ _ | refine bdr ?_ | refine bdn ?_ _ | refine bal ?_ _))) hW) p q) hff).mono ?_;rintro e w6 ⟨s6,gp6,in6,ln6,v6,rfl,own6,hb6⟩;have r1:=bc1 (btr Bw.out hb6) m1;have r2:=bc1 (btr Bw.out hb6) m2;have r3:=bc1 (btr Bw.out hb6) m3))
 all_goals
  have BB:Below w.heap.size w w6:=btr (by (repeat (with_reducible first | exact HB2.out | exact Below.refl _ _ | refine bdr ?_ | refine bdn ?_ _ | refine bal ?_ _))) hb6
  have y6:=HB2.out.size
  go_wp2
  go_ret
  refine ⟨s6,gp6,fun x=>?_,ln6,v6,rfl,own_base own6 (by first | omega | (simp;omega)),BB⟩
  rw [in6 x]
  have q1:inSpB sp1 x=insB l1 x y:=by rw [Bool.eq_iff_iff,inSpB_iff,insB_iff,in1 x,inRow_iff]
  have q2:inSpB sp2 x=insB l2 x y:=by rw [Bool.eq_iff_iff,inSpB_iff,insB_iff,in2 x,inRow_iff]
  rw [q1,q2]
theorem enters_choose:Enters 185:=enters_of Tryz.func185 (by kernel_rfl) rfl
theorem cutting_two {ls:List (Sc Rc)} {s:Sc Rc} (h:s ∈ ls):Cutting (ascOf (allY ls)) s.l:=cutting_allY h
theorem choose_in {l1 l2:List Rc} {f:Bool→Bool→Bool} {c:List Int} (hc:Asc c) (h1:Cutting c l1) (h2:Cutting c l2) {k:Nat} (hk:k+1<c.length) {x y:Int} (q1:c.getD k 0≤y) (q2:y<c.getD (k+1) 0) :
  (f (insB l1 x y) (insB l2 x y)=true↔f (insB l1 x (c.getD k 0)) (insB l2 x (c.getD k 0))=true):=by
 have e1:insB l1 x y=insB l1 x (c.getD k 0):=by rw [Bool.eq_iff_iff,insB_iff,insB_iff,row_const hc h1 hk q1 q2,inRow_iff]
 have e2:insB l2 x y=insB l2 x (c.getD k 0):=by rw [Bool.eq_iff_iff,insB_iff,insB_iff,row_const hc h2 hk q1 q2,inRow_iff]
 rw [e1,e2]
theorem choose_out {l1 l2:List Rc} {f:Bool→Bool→Bool} {c:List Int} (hc:Asc c) (h1:Cutting c l1) (h2:Cutting c l2) (hff:f false false=false) {x y:Int} (h:f (insB l1 x y) (insB l2 x y)=true):∃ k,k+1<c.length∧c.getD k 0≤y∧y<c.getD (k+1) 0:=by
 cases e1:insB l1 x y with
 | true=>exact row_out hc h1 ((insB_iff _ _ _).1 e1)
 | false =>
  cases e2:insB l2 x y with
  | true=>exact row_out hc h2 ((insB_iff _ _ _).1 e2)
  | false=>rw [e1,e2,hff] at h;cases h
theorem choose_any (a1:Option Addr) (n1 k1:Nat) (l1:List Rc) (a2:Option Addr) (n2 k2:Nat) (l2:List Rc) (g:Nat) (lb:Array Value) (eg:Enters g) (f:Bool→Bool→Bool) (w:World)
  (h1:ScOk w ⟨a1,n1,k1,l1⟩) (h2:ScOk w ⟨a2,n2,k2,l2⟩) (p1:Wide l1) (p2:Wide l2) (hf:Chooses w g lb f) (hff:f false false=false) :
  Calls Tryz.prog 145 #[.slice a1 n1 k1,.slice a2 n2 k2,.func (.func g) #[] lb] w (NewCan w fun x y=>f (insB l1 x y) (insB l2 x y)=true):=by
 have H1:=hid h1;have H2:=hid h2;have P1:=hid p1;have P2:=hid p2;have HF:=hid hf;have HFF:=hid hff
 have hlen:(ascOf (allY [⟨a1,n1,k1,l1⟩,⟨a2,n2,k2,l2⟩])).length≤1000000:=by
  have q1:=ascOf_len (allY [⟨a1,n1,k1,l1⟩,⟨a2,n2,k2,l2⟩])
  have q2:=edgesY_len l1;have q3:=edgesY_len l2;have q4:=h1.2;have q5:=h2.2
  simp [allY] at q1 q4 q5 ⊢
  omega
 have HLEN:=hid hlen
 clear h1 h2 p1 p2 hf hff hlen
 go_enter Tryz.func145,Tryz.ntmps145
 go_wp2_with (first
  | (go_at_call 182;refine (cuts_any _ _ _ [⟨a1,n1,k1,l1⟩,⟨a2,n2,k2,l2⟩] _ (by first | exact vw_blk (Blk.fresh (by simp)) | exact vw_blk (Blk.fresh (by simp)).drew) rfl (by simp) (fun s hs=>by simp only [List.mem_cons,List.not_mem_nil,or_false] at hs;rcases hs with rfl | rfl;exact H1.out.below Bw.out;exact H2.out.below Bw.out)).mono ?_;rintro e w1 ⟨v1,rfl,hown1,hb1⟩;obtain ⟨a3,c3,rfl,-,-,-⟩:=own_form hown1;have OWN1:=hid hown1;have HB1:=hid (btr Bw.out hb1:Below w.heap.size w w1);have x1:w1.cell? ⟨w.heap.size,0,none⟩=some (.slice a1 n1 k1):=bc1 hb1 (by simp [go_sem]);have x2:w1.cell? ⟨w.heap.size+1,0,none⟩=some (.slice a2 n2 k2):=bc1 hb1 (by simp [go_sem]);have x3:w1.cell? ⟨w.heap.size+1+1,0,none⟩=some (.func (.func g) #[] lb):=bc1 hb1 (by simp [go_sem]))
  | (go_at_call 181;refine (build_any 185 _ enters_choose (fun y x=>f (insB l1 x y) (insB l2 x y)=true) (fun x y=>f (insB l1 x y) (insB l2 x y)=true) (ascOf (allY [⟨a1,n1,k1,l1⟩,⟨a2,n2,k2,l2⟩])) _ _ _ _ (vw_of_own OWN1.out) rfl HLEN.out (asc_of (ascOf_asc _)) (fun W y hW=>chrow_any _ _ _ ⟨a1,n1,k1,l1⟩ ⟨a2,n2,k2,l2⟩ g lb eg f y W (bc1 hW x1) (bc1 hW x2) (bc1 hW x3) (H1.out.below (btr HB1.out hW)) (H2.out.below (btr HB1.out hW)) P1.out P2.out (fun W' hW' p q=>HF.out W' (btr (btr HB1.out hW) hW') p q) HFF.out) (fun k hk x y q1 q2=>choose_in (asc_of (ascOf_asc _)) (cutting_two (s:=⟨a1,n1,k1,l1⟩) List.mem_cons_self) (cutting_two (s:=⟨a2,n2,k2,l2⟩) (List.mem_cons_of_mem _ List.mem_cons_self)) hk q1 q2) (fun x y h=>choose_out (asc_of (ascOf_asc _)) (cutting_two (s:=⟨a1,n1,k1,l1⟩) List.mem_cons_self) (cutting_two (s:=⟨a2,n2,k2,l2⟩) (List.mem_cons_of_mem _ List.mem_cons_self)) HFF.out h)).mono ?_;rintro e w2 ⟨l',h1,h2,v2,rfl,h3,h4⟩))
 go_ret
 exact ⟨l',h1,h2,v2,rfl,own_base h3 HB1.out.size,btr HB1.out h4⟩
theorem chos_or_nil (l:List Rc) (x y:Int):(keepB 1 (insB l x y) (insB [] x y)=true)↔inRc l x y:=by
 rw [← insB_iff]
 have:insB [] x y=false:=rfl
 rw [this];simp [keepB]
theorem scOk_nil (w:World):ScOk w ⟨none,0,0,[]⟩:=⟨Vw.nil _ _,rfl,by simp⟩
theorem combine_or_nil (a:Option Addr) (n cap:Nat) (l:List Rc) (w:World) (h:ScOk w ⟨a,n,cap,l⟩) :
  Calls Tryz.prog 62 #[.slice a n cap,.slice none 0 0,.int .i64 1] w (NewCan w (inRc l)) :=
 (combine_any a n cap l none 0 0 [] 1 w h (scOk_nil w)).mono fun e w' ⟨l',h1,h2,h3⟩=>⟨l',h1.congr fun x y=>chos_or_nil l x y,h2,h3⟩
theorem rvalid_any (a:Option Addr) (n cap:Nat) (l:List Rc) (w:World) (hV:Vw w a (rcCells l)) (hn:l.length=n) (hc:n≤9223372036854775807) :
  Calls Tryz.prog 59 #[.agg #[.slice a n cap]] w (Says w (Vld l)):=by
 have HV:=hid hV;have HN:=hid hn
 clear hV hn
 by_cases h120:n≤120
 ·have h1:¬ (120:Int)<(n:Int):=by omega
  go_enter Tryz.func59,Tryz.ntmps59
  go_wp2
  obtain ⟨W0,hW0⟩:∃ W0,w.alloc (.cells #[.slice a n cap] 38)=W0:=⟨_,rfl⟩
  have BX:RowKit.Hid (Blk W0 w.heap.size 38 #[.slice a n cap]):=by show Blk W0 _ _ _;rw [← hW0];exact Blk.fresh rfl
  have B0:RowKit.Hid (Below w.heap.size w W0):=by show Below _ _ _;rw [← hW0];exact Bw.out
  rw [hW0]
  clear hW0
  go_loopw [12] (fun i wr=>LookI W0 n (fun k=>∀ j (hj:j<l.length),j<k→Prp l[j]) i wr) (fun i _=>n - (intOf i).toNat)
  case atStart=>exact ⟨0,Nat.zero_le _,rfl,Below.refl _ _,fun j _ h=>by omega⟩
  case round =>
   obtain ⟨k,hk,rfl,hb,hno⟩:=hrel
   have NO:=hid hno
   clear hno
   by_cases hlt:k<n
   ·have hlt':(k:Int)<(n:Int):=by omega
    have g1:k<l.length:=by have:=HN.out;omega
    obtain ⟨b,off,rfl,hbl,c0,c1,c2,c3⟩:=((HV.out.below B0.out).below hb).rc k g1
    obtain ⟨q,hq⟩:∃ q,l[k]'g1=q:=⟨_,rfl⟩
    rw [hq] at c0 c1 c2 c3
    have HQ:=hid hq;have HB:=hid hb
    obtain ⟨d,hd⟩:∃ d,decide (Prp q)=d:=⟨_,rfl⟩
    have HD:=hid hd
    have HC:RowKit.Hid (∀ W,Calls Tryz.prog 101 #[.agg #[.int .i64 q.1,.int .i64 q.2.1,.int .i64 q.2.2.1,.int .i64 q.2.2.2]] W fun e w'=>e=.returned (.bool d)∧Below W.heap.size W w'):=fun W=>by rw [← hd];exact rproper_any q W
    clear hq hb hd
    obtain ⟨q0,q1,q2,q3⟩:=q
    dsimp only at c0 c1 c2 c3 HC
    cases d with
    | true =>
     go_wp2_with (go_at_call 101;refine (HC.out _).mono ?_;rintro e w1 ⟨rfl,hb1⟩)
     go_roundw
     case rel =>
      refine ⟨k+1,by omega,by go_num,btr (by (repeat (with_reducible first | exact HB.out | exact Below.refl _ _ | refine bdr ?_ | refine bdn ?_ _ | refine bal ?_ _))) hb1,fun j hj hjk=>?_⟩
      by_cases e:j=k
      ·subst e;rw [HQ.out];exact of_decide_eq_true HD.out
      ·exact NO.out j hj (by omega)
     case measure=>simp [intOf];omega
    | false =>
     go_wp2_with (go_at_call 101;refine (HC.out _).mono ?_;rintro e w1 ⟨rfl,hb1⟩)
     go_ret
     refine ⟨false,rfl,⟨(fun h=>by cases h),fun h=>?_⟩,btr B0.out (btr (by (repeat (with_reducible first | exact HB.out | exact Below.refl _ _ | refine bdr ?_ | refine bdn ?_ _ | refine bal ?_ _))) hb1)⟩
     have:=h.2.1 _ (List.getElem_mem g1)
     rw [HQ.out] at this
     exact absurd this (of_decide_eq_false HD.out)
   ·have hge:¬ (k:Int)<(n:Int):=by omega
    have PRP:RowKit.Hid (∀ q ∈ l,Prp q):=fun q hq=>by
     obtain ⟨j,hj,rfl⟩:=List.getElem_of_mem hq
     exact NO.out j hj (by have:=HN.out;omega)
    have BX2:=hid (BX.out.below hb)
    have x0:wr.cell? ⟨w.heap.size,0,none⟩=some (.slice a n cap):=BX2.out.cell 0
    have y0:=BX2.out.lt
    have HB:=hid (btr B0.out hb)
    clear hb NO
    go_wp2
    go_region_held3 (fun w'=>w'.cell? ⟨w.heap.size,0,none⟩=some (.slice a n cap)) (simp [go_sem, *])
     (first
     | (go_at_call 62;refine (combine_or_nil _ _ _ l _ ⟨HV.out.below (by (repeat (with_reducible first | exact HB.out | exact Below.refl _ _ | refine bdr ?_ | refine bdn ?_ _ | refine bal ?_ _))),HN.out,by dsimp only;omega⟩).mono ?_;rintro e w2 ⟨l',hcan,hl',v2,rfl,hown2,hb2⟩;obtain ⟨a2,cap2,rfl,hc2,hm2,-⟩:=own_form hown2;have BX3:Blk w2 w.heap.size 38 #[.slice a n cap]:=BX2.out.below (by first | exact hb2 | exact btr (bdr (Below.refl _ _)) hb2);have x2:w2.cell? ⟨w.heap.size,0,none⟩=some (.slice a n cap):=BX3.cell 0;have y2:=BX3.lt;have HB2:Below w.heap.size w w2:=btr (by (repeat (with_reducible first | exact HB.out | exact Below.refl _ _ | refine bdr ?_ | refine bdn ?_ _ | refine bal ?_ _))) hb2)
     | (go_at_call 63;refine (rects_eq _ _ _ l' _ _ _ l _ (vw_of_own hown2) rfl (by unfold maxLen at hm2;omega) (HV.out.below HB2) HN.out hc).mono ?_;rintro e w3 ⟨rfl,q3,rfl⟩))
    all_goals
     go_wp2
     go_ret
     refine ⟨_,rfl,?_,(by (repeat (with_reducible first | exact HB2 | exact Below.refl _ _ | refine bdr ?_ | refine bdn ?_ _ | refine bal ?_ _)))⟩
     rw [decide_eq_true_eq]
     exact ⟨fun e=>⟨by rw [HN.out];exact h120,PRP.out,by rw [← e];exact (IsCan.congr hcan fun x y=>by rw [e])⟩,fun h=>hcan.uniq h.2.2⟩
 ·have h1:(120:Int)<(n:Int):=by omega
  go_enter Tryz.func59,Tryz.ntmps59
  go_wp2
  go_ret
  exact ⟨false,rfl,⟨(fun h=>by cases h),fun h=>absurd h.1 (by rw [HN.out];exact h120)⟩,Bw.out⟩
def sizeRc:List Rc→Int
 | []=>0
 | q :: l=>(q.2.2.1 - q.1) * (q.2.2.2 - q.2.1)+sizeRc l
theorem sizeRc_snoc (l:List Rc) (q:Rc):sizeRc (l++[q])=sizeRc l+(q.2.2.1 - q.1) * (q.2.2.2 - q.2.1):=by
 induction l with
 | nil=>simp [sizeRc]
 | cons x l ih=>simp only [List.cons_append,sizeRc,ih];omega
theorem prp_area {q:Rc} (h:Prp q):0≤(q.2.2.1 - q.1) * (q.2.2.2 - q.2.1)∧(q.2.2.1 - q.1) * (q.2.2.2 - q.2.1)≤268435456:=by
 obtain ⟨h1,h2,h3,h4,h5,h6⟩:=h
 refine ⟨Int.mul_nonneg (by omega) (by omega),?_⟩
 have:=Int.mul_le_mul (show q.2.2.1 - q.1≤16384 by omega) (show q.2.2.2 - q.2.1≤16384 by omega) (by omega) (by omega)
 omega
theorem sizeRc_bd {l:List Rc} (h:∀ q ∈ l,Prp q):0≤sizeRc l∧sizeRc l≤l.length * 268435456:=by
 induction l with
 | nil=>simp [sizeRc]
 | cons q l ih =>
  have h1:=prp_area (h q (by simp))
  have h2:=ih fun q hq=>h q (by simp [hq])
  simp only [sizeRc,List.length_cons]
  omega
end Go.Proofs.YtancajcelmhnkaaGreatDoor
