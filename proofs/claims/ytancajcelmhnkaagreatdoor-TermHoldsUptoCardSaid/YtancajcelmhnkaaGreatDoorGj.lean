/- Where the same family stood for some years. -/
import Derived.Test.YtancajcelmhnkaaGreatDoorGi
set_option maxRecDepth 100000
set_option maxHeartbeats 4000000
namespace Go.Proofs.YtancajcelmhnkaaGreatDoor
open Go.RowKit Go.Sort Go.Shelf
set_option linter.unusedVariables false
set_option linter.unusedSimpArgs false
theorem plInfo:(Tryz.prog.info? 98).map (·.size)=some 10:=by kernel_rfl
theorem Rws.crop {w:World} {s:Sc Crp} {m:Nat} (h:Rws encCrp w s m) {k:Nat} (hk:k<s.n):∃ b off:Nat,s.a=some ⟨b,off,none⟩∧b<w.heap.size∧w.cell? ⟨b,off+k * 3,none⟩=some (.string (crpAt s.l k).name)∧w.cell? ⟨b,off+k * 3+1,none⟩=some (.int .i64 (crpAt s.l k).family)∧w.cell? ⟨b,off+k * 3+2,none⟩=some (.int .i64 (crpAt s.l k).marks):=by
 have hk':k<s.l.length:=by rw [h.len];exact hk
 obtain ⟨b,off,e,hb,hr⟩:=h.vw.range (k:=3) (fun x _=>encCrp_len x) (by omega) k hk'
 have ec:crpAt s.l (k:Int)=s.l[k]:=by unfold crpAt;rw [Int.toNat_natCast];simp [List.getD_eq_getElem?_getD,List.getElem?_eq_getElem hk']
 rw [ec]
 exact ⟨b,off,e,hb,hr 0 _ rfl,hr 1 _ rfl,hr 2 _ rfl⟩
theorem same1_any (bp bf:Nat) (s:Sc Crp) (k:Nat) (fam:Int) (w:World) (h1:w.cell? ⟨bp,1,none⟩=some (.slice s.a s.n s.c)) (h2:w.cell? ⟨bf,0,none⟩=some (.int .i64 fam)) (hR:Rws encCrp w s 40) (hk:k<s.n) :
  Calls Tryz.prog 188 #[.int .i64 k,.pointer (some ⟨bp,0,none⟩),.pointer (some ⟨bf,0,none⟩)] w fun e w'=>e=.returned (.bool (decide ((crpAt s.l k).family=fam)))∧Below w.heap.size w w':=by
 obtain ⟨b,off,ha,hb,-,c1,-⟩:=hR.crop hk
 obtain ⟨a,n,c,l⟩:=s
 dsimp only at ha hk h1 c1
 subst ha
 obtain ⟨f,hf⟩:∃ f,(crpAt l k).family=f:=⟨_,rfl⟩
 dsimp only
 rw [hf] at c1 ⊢
 have i0:(0:Int)≤(k:Int):=by omega
 have i1:(k:Int)<(n:Int):=by omega
 clear hR hf
 go_enter Tryz.func188,Tryz.ntmps188
 go_wp2
 go_quiet (fail)
 go_wp2
 go_ret
 exact ⟨rfl,Bw.out⟩
theorem same2_any (bp bf:Nat) (s:Sc Crp) (k:Nat) (fam:Int) (w:World) (h1:w.cell? ⟨bp,1,none⟩=some (.slice s.a s.n s.c)) (h2:w.cell? ⟨bf,0,none⟩=some (.int .i64 fam)) (hR:Rws encCrp w s 40) (hk:k<s.n) :
  Calls Tryz.prog 189 #[.int .i64 k,.pointer (some ⟨bp,0,none⟩),.pointer (some ⟨bf,0,none⟩)] w fun e w'=>e=.returned (.bool (!decide ((crpAt s.l k).family=fam)))∧Below w.heap.size w w':=by
 obtain ⟨b,off,ha,hb,-,c1,-⟩:=hR.crop hk
 obtain ⟨a,n,c,l⟩:=s
 dsimp only at ha hk h1 c1
 subst ha
 obtain ⟨f,hf⟩:∃ f,(crpAt l k).family=f:=⟨_,rfl⟩
 dsimp only
 rw [hf] at c1 ⊢
 have i0:(0:Int)≤(k:Int):=by omega
 have i1:(k:Int)<(n:Int):=by omega
 clear hR hf
 go_enter Tryz.func189,Tryz.ntmps189
 go_wp2
 go_quiet (fail)
 go_wp2
 go_ret
 exact ⟨ret_bool (by first | rfl | simp),Bw.out⟩
theorem en_same1:Enters 188:=enters_of Tryz.func188 (by kernel_rfl) rfl
theorem en_same2:Enters 189:=enters_of Tryz.func189 (by kernel_rfl) rfl
def Env.sameY (E:Env) (k:Int):Sq:=fun x y=>E.R x y∧∀ n:Int,1≤n→n<k→E.known n E.kin x y
def Env.sameN (E:Env) (k:Int):Sq:=fun x y=>∃ n:Int,1≤n∧n<k∧E.known n (fun c=>!E.kin c) x y
theorem sameY_succ (E:Env) (k:Int) (h:1≤k) (x y:Int):(E.sameY k x y∧E.known k E.kin x y)↔E.sameY (k+1) x y:=by
 unfold Env.sameY
 constructor
 ·rintro ⟨⟨h1,h2⟩,h3⟩
  refine ⟨h1,fun n a b=>?_⟩
  by_cases e:n=k
  ·subst e;exact h3
  ·exact h2 n a (by omega)
 ·rintro ⟨h1,h2⟩
  exact ⟨⟨h1,fun n a b=>h2 n a (by omega)⟩,h2 k h (by omega)⟩
theorem sameN_succ (E:Env) (k:Int) (h:1≤k) (x y:Int):(E.sameN k x y∨E.known k (fun c=>!E.kin c) x y)↔E.sameN (k+1) x y:=by
 unfold Env.sameN
 constructor
 ·rintro (⟨n,a,b,c⟩ | c)
  ·exact ⟨n,a,by omega,c⟩
  ·exact ⟨k,h,by omega,c⟩
 ·rintro ⟨n,a,b,c⟩
  by_cases e:n=k
  ·subst e;exact .inr c
  ·exact .inl ⟨n,a,by omega,c⟩
def SmI (g:Nat) (p:PlM) (W0:World) (N:Nat) (vy vn i:Value) (wr:World):Prop :=
 ∃ (k:Nat) (y n:Sc Rc),1≤k∧k≤N∧i=.int .i64 k∧vy=.slice y.a y.n y.c∧vn=.slice n.a n.n n.c∧CanS wr (p.env.sameY k) y∧CanS wr (p.env.sameN k) n∧FarS g y∧FarS g n∧Below W0.heap.size W0 wr
theorem same_any16 (p:PlM) (N:Nat) (w:World) (h:PlOk w p) (hN:2≤N∧N≤10) :
  Calls Tryz.prog 154 #[.agg p.cells.toArray,.int .i64 N] w (SqP w p.env ⟨p.env.sameY N,p.env.sameN N⟩):=by
 obtain ⟨kc,hkc⟩:∃ kc:Nat,p.crop=kc:=⟨p.crop.toNat,by have:=h.crop;omega⟩
 have hk:kc<p.cr.n:=by have:=h.crop;omega
 obtain ⟨b,off,ha,hb,-,c1,-⟩:=h.cr.crop hk
 obtain ⟨fam,hfam⟩:∃ f,(crpAt p.cr.l kc).family=f:=⟨_,rfl⟩
 rw [hfam] at c1
 have W0:Blk ((w.alloc (.cells p.cells.toArray 98)).alloc (.cells #[.slice none 0 0,.slice none 0 0,.slice none 0 0] 100)) w.heap.size 98 p.cells.toArray:=(Blk.new w _ _).alloc _
 have d1:((w.alloc (.cells p.cells.toArray 98)).alloc (.cells #[.slice none 0 0,.slice none 0 0,.slice none 0 0] 100)).cell? ⟨w.heap.size,1,none⟩=some (.slice (some ⟨b,off,none⟩) p.cr.n p.cr.c):=(W0.cell 1).trans (by show some (sl p.cr)=_;unfold sl;rw [ha])
 have d7:((w.alloc (.cells p.cells.toArray 98)).alloc (.cells #[.slice none 0 0,.slice none 0 0,.slice none 0 0] 100)).cell? ⟨w.heap.size,7,none⟩=some (.int .i64 kc):=(W0.cell 7).trans (by show some (Value.int .i64 p.crop)=_;rw [hkc])
 have d9:((w.alloc (.cells p.cells.toArray 98)).alloc (.cells #[.slice none 0 0,.slice none 0 0,.slice none 0 0] 100)).cell? ⟨w.heap.size,9,none⟩=some (.slice p.rc.a p.rc.n p.rc.c):=W0.cell 9
 have e1:((w.alloc (.cells p.cells.toArray 98)).alloc (.cells #[.slice none 0 0,.slice none 0 0,.slice none 0 0] 100)).cell? ⟨b,off+kc * 3+1,none⟩=some (.int .i64 fam):=bc1 Bw.out c1
 have i0:(0:Int)≤(kc:Int):=by omega
 have i1:(kc:Int)<(p.cr.n:Int):=by omega
 have H:=hid h;have HFAM:=hid hfam;have HKC:=hid hkc;have HA:=hid ha;have HW:=hid W0
 clear h hfam hkc ha c1 W0
 go_enter Tryz.func154,Tryz.ntmps154
 go_wp2
 obtain ⟨W3,hW3⟩:∃ W3,((w.alloc (.cells p.cells.toArray 98)).alloc (.cells #[.slice none 0 0,.slice none 0 0,.slice none 0 0] 100)).alloc (.cells #[.int .i64 fam] 3)=W3:=⟨_,rfl⟩
 have BP:RowKit.Hid (Blk W3 w.heap.size 98 p.cells.toArray):=by show Blk _ _ _ _;rw [← hW3];exact HW.out.alloc _
 have BQ:RowKit.Hid (Blk W3 (w.heap.size+1) 100 #[.slice none 0 0,.slice none 0 0,.slice none 0 0]):=by show Blk _ _ _ _;rw [← hW3];exact (Blk.fresh (by simp):Blk _ (w.heap.size+1) _ _).alloc _
 have BF:RowKit.Hid (Blk W3 (w.heap.size+1+1) 3 #[.int .i64 fam]):=by show Blk _ _ _ _;rw [← hW3];exact Blk.fresh (by simp)
 have B3:RowKit.Hid (Below w.heap.size w W3):=by show Below _ _ _;rw [← hW3];exact Bw.out
 rw [hW3]
 have KN1:RowKit.Hid (∀ (W:World) (k:Nat),Below W3.heap.size W3 W→k≤10→Calls Tryz.prog 155 #[.agg p.cells.toArray,.int .i64 k,.func (.func 188) #[] #[.pointer (some ⟨w.heap.size,0,none⟩),.pointer (some ⟨w.heap.size+1+1,0,none⟩)]] W (NewS W (p.env.known k p.env.kin))):=fun W k hW hk=>by
  refine (known_any p k _ _ en_same1 (fun c=>0≤c∧c<p.cr.n) p.env.kin W (H.out.below (btr B3.out hW)) (by omega) (fun W' hW' c hc=>?_) (fun c a b=>⟨a,b⟩)).mono fun e w' q=>q.toS (fun x y z=>z.1) H.out.board
  obtain ⟨j,rfl⟩:∃ j:Nat,c=j:=⟨c.toNat,by omega⟩
  have:=same1_any w.heap.size (w.heap.size+1+1) p.cr j fam W' ((BP.out.below (btr hW hW')).cell 1) ((BF.out.below (btr hW hW')).cell 0) (H.out.cr.below (btr (btr B3.out hW) hW')) (by omega)
  rwa [← HFAM.out,← HKC.out] at this
 have KN2:RowKit.Hid (∀ (W:World) (k:Nat),Below W3.heap.size W3 W→k≤10→Calls Tryz.prog 155 #[.agg p.cells.toArray,.int .i64 k,.func (.func 189) #[] #[.pointer (some ⟨w.heap.size,0,none⟩),.pointer (some ⟨w.heap.size+1+1,0,none⟩)]] W (NewS W (p.env.known k fun c=>!p.env.kin c))):=fun W k hW hk=>by
  refine (known_any p k _ _ en_same2 (fun c=>0≤c∧c<p.cr.n) (fun c=>!p.env.kin c) W (H.out.below (btr B3.out hW)) (by omega) (fun W' hW' c hc=>?_) (fun c a b=>⟨a,b⟩)).mono fun e w' q=>q.toS (fun x y z=>z.1) H.out.board
  obtain ⟨j,rfl⟩:∃ j:Nat,c=j:=⟨c.toNat,by omega⟩
  have:=same2_any w.heap.size (w.heap.size+1+1) p.cr j fam W' ((BP.out.below (btr hW hW')).cell 1) ((BF.out.below (btr hW hW')).cell 0) (H.out.cr.below (btr (btr B3.out hW) hW')) (by omega)
  rwa [← HFAM.out,← HKC.out] at this
 clear hW3 d1 d7 d9 e1
 go_loopw [6,7,8] (fun vy vn i wr=>SmI (w.heap.size+1) p W3 N vy vn i wr) (fun _ _ i _=>N - (intOf i).toNat)
 case atStart=>exact ⟨1,p.rc,nilSc,by omega,by omega,rfl,rfl,rfl,⟨H.out.rc.below B3.out,H.out.can.congr fun x y=>⟨fun h=>⟨h,fun n a b=>by omega⟩,fun h=>h.1⟩⟩,canS_nil _ (fun x y ⟨n,a,b,_⟩=>by omega),far_old H.out.rc (by omega),(fun h=>absurd rfl h),Below.refl _ _⟩
 case round =>
  obtain ⟨k,y,n,hk1,hkN,rfl,rfl,rfl,hy,hn,fy,fn,hb⟩:=hrel
  have FY:=hid fy;have FN:=hid fn
  have HY:=hid hy;have HN2:=hid hn;have HB:=hid hb
  obtain ⟨ya,yn,yc,yl⟩:=y
  obtain ⟨na,nn,nc,nl⟩:=n
  dsimp only
  clear hy hn hb fy fn
  by_cases hlt:k<N
  ·have CH1:RowKit.Hid (∀ W a m c l,Below wr.heap.size wr W→CanS W (p.env.known k p.env.kin) ⟨a,m,c,l⟩→Calls Tryz.prog 145 #[.slice ya yn yc,.slice a m c,.func (.func 146) #[] #[]] W (NewS W (p.env.sameY (k+1:Nat)))):=fun W a m c l hW hc =>
    chooseS _ _ _ yl _ _ _ l _ en_both fBoth _ _ _ p.env.R W (HY.out.ok.below hW) hc.ok HY.out.can hc.can (ch_both _) rfl (fun x y=>(both_iff HY.out.can hc.can x y).trans (by rw [Int.natCast_add];exact sameY_succ p.env k (by omega) x y)) (fun x y q=>q.1) H.out.board
   have CH2:RowKit.Hid (∀ W a m c l,Below wr.heap.size wr W→CanS W (p.env.known k fun c=>!p.env.kin c) ⟨a,m,c,l⟩→Calls Tryz.prog 145 #[.slice na nn nc,.slice a m c,.func (.func 147) #[] #[]] W (NewS W (p.env.sameN (k+1:Nat)))):=fun W a m c l hW hc =>
    chooseS _ _ _ nl _ _ _ l _ en_either fEither _ _ _ p.env.R W (HN2.out.ok.below hW) hc.ok HN2.out.can hc.can (ch_either _) rfl (fun x y=>(either_iff HN2.out.can hc.can x y).trans (by rw [Int.natCast_add];exact sameN_succ p.env k (by omega) x y)) (fun x y ⟨n,_,_,q⟩=>q.1) H.out.board
   go_wp2_with (first
    | (refine wpList_load_row rfl 98 (.tmp 2) rfl w.heap.size rfl _ p.cells.toArray _ _ (BP.out.below HB.out) Tryz.underlying98 rfl plInfo ?_)
    | (refine wpList_load_row rfl 98 (.tmp 2) rfl w.heap.size rfl _ p.cells.toArray _ _ (BP.out.below HB1.out) Tryz.underlying98 rfl plInfo ?_)
    | (go_at_call 155;first
     | ((with_reducible refine (KN1.out _ k HB.out (by omega)).mono ?_);rintro e w1 ⟨a1,m1,c1,l1,rfl,s1,i1,hb1,-⟩;have HB1:=hid (btr HB.out hb1);have S1:=hid (CanS.mk s1 i1);have B1:=hid hb1;clear s1 i1 hb1)
     | ((with_reducible refine (KN2.out _ k HB1.out (by omega)).mono ?_);rintro e w2 ⟨a2,m2,c2,l2,rfl,s2,i2,hb2,-⟩;have HB2:=hid (btr HB1.out hb2);have S2:=hid (CanS.mk s2 i2);have B2:=hid (btr B1.out hb2);have S1':=hid (S1.out.below hb2);clear s2 i2 hb2))
    | (go_at_call 145;first
     | ((with_reducible refine (CH1.out _ a1 m1 c1 l1 B2.out S1'.out).mono ?_);rintro e w3 ⟨a3,m3,c3,l3,rfl,s3,i3,hb3,hi3⟩;have HI3:=hid hi3;clear hi3;have HB3:=hid (btr HB2.out hb3);have S3:=hid (CanS.mk s3 i3);have B3':=hid (btr B2.out hb3);have S2':=hid (S2.out.below hb3);clear s3 i3 hb3)
     | ((with_reducible refine (CH2.out _ a2 m2 c2 l2 B3'.out S2'.out).mono ?_);rintro e w4 ⟨a4,m4,c4,l4,rfl,s4,i4,hb4,hi4⟩;have HI4:=hid hi4;clear hi4;have HB4:=hid (btr HB3.out hb4);have S4:=hid (CanS.mk s4 i4);have S3':=hid (S3.out.below hb4);clear s4 i4 hb4)))
   go_roundw
   case rel=>exact ⟨k+1,⟨a3,m3,c3,l3⟩,⟨a4,m4,c4,l4⟩,by omega,by omega,by go_num,rfl,rfl,S3'.out,S4.out,far_new HI3.out (by have:=BQ.out.lt;have:=HB2.out.size;omega),far_new HI4.out (by have:=BQ.out.lt;have:=HB3.out.size;omega),HB4.out⟩
   case measure=>simp [intOf];omega
  ·obtain rfl:k=N:=by omega
   have RS:RowKit.Hid (∀ W,Below wr.heap.size wr W→Calls Tryz.prog 148 #[.agg p.cells.toArray,.slice ya yn yc,.slice na nn nc] W (RestP W p.env ya yn yc na nn nc (p.env.sameY k) (p.env.sameN k))):=fun W hW =>
    rest_any p ya yn yc yl na nn nc nl _ _ W (H.out.below (btr (btr B3.out HB.out) hW)) (HY.out.ok.below hW) HY.out.can (HN2.out.ok.below hW) HN2.out.can
   go_wp2_with (first
    | (refine wpList_load_row rfl 98 (.tmp 2) rfl w.heap.size rfl _ p.cells.toArray _ _ (BP.out.below HB.out) Tryz.underlying98 rfl plInfo ?_)
    | (go_at_call 148;refine (RS.out _ (Below.refl _ _)).mono ?_;rintro e w1 ⟨ao,no,co,lo,rfl,so,io,hb1,hio⟩;have HB1:=hid hb1;have SO:=hid so;have IQ:=hid io)
    | (refine wpList_store_row rfl 100 (.tmp 4) (.tmp 44) rfl (w.heap.size+1) #[.slice ya yn yc,.slice na nn nc,.slice ao no co] rfl rfl _ _ (BQ.out.below (btr HB.out HB1.out)) sqInfo rfl (sq_one _ _ _ rfl rfl rfl) ?_))
   have BR:=setRow_heap w1 (w.heap.size+1) _ #[.slice ya yn yc,.slice na nn nc,.slice ao no co] _ _ (BQ.out.below (btr HB.out HB1.out))
   have y3:=BQ.out.lt
   have y4:=HB.out.size
   refine bodyPost_ret (results_cell_row rfl _ _ _ _ _ _ _ rfl BR Tryz.underlying100 rfl sqInfo) rfl ?_
   exact ⟨⟨ya,yn,yc,yl⟩,⟨na,nn,nc,nl⟩,⟨ao,no,co,lo⟩,rfl,⟨far_setRow (HY.out.ok.below HB1.out) FY.out,HY.out.can⟩,⟨far_setRow (HN2.out.ok.below HB1.out) FN.out,HN2.out.can⟩,⟨far_setRow SO.out (far_new hio (by omega)),IQ.out⟩,below_setRow (btr (btr B3.out HB.out) HB1.out) (by omega) _⟩
theorem hasMark_at {l:List Crp} {k:Nat} (hk:k<l.length) (m:Int):hasMark l k m=(!decide (m=0) && decide (bits .and .i64 (crpAt l k).marks m=m)):=by
 unfold hasMark
 rw [decide_eq_true (show (0:Int)≤(k:Int)∧(k:Int)<l.length by omega),Bool.true_and]
theorem has_any (s:Sc Crp) (k:Nat) (m:Int) (w:World) (hR:Rws encCrp w s 40) (hk:k<s.n) :
  Calls Tryz.prog 150 #[.slice s.a s.n s.c,.int .i64 k,.int .i64 m] w fun e w'=>e=.returned (.bool (hasMark s.l k m))∧Below w.heap.size w w':=by
 have hm:=hasMark_at (l:=s.l) (k:=k) (by rw [hR.len];exact hk) m
 obtain ⟨b,off,ha,hb,-,-,c2⟩:=hR.crop hk
 obtain ⟨a,n,c,l⟩:=s
 dsimp only at ha hk c2 hm ⊢
 subst ha
 obtain ⟨f,hf⟩:∃ f,(crpAt l k).marks=f:=⟨_,rfl⟩
 rw [hf] at c2 hm
 have HM:=hid hm
 have i0:(0:Int)≤(k:Int):=by omega
 have i1:(k:Int)<(n:Int):=by omega
 clear hR hf hm
 by_cases m0:m=0
 ·subst m0
  go_enter Tryz.func150,Tryz.ntmps150
  go_wp2
  all_goals
   go_ret
   exact ⟨ret_bool (by rw [HM.out];simp),Bw.out⟩
 ·have mb:(m != 0)=true:=by simpa using m0
  have HM0:=hid m0
  clear m0
  go_enter Tryz.func150,Tryz.ntmps150
  go_wp2
  all_goals
   go_ret
   exact ⟨ret_bool (by rw [HM.out,decide_eq_false HM0.out];first | rfl | simp [*]),Bw.out⟩
theorem there_any (nu ki a b d:Int) (v:Value) (hv:v.oneCell'=true) (w:World):Calls Tryz.prog 139 #[.agg #[.int .i64 nu,.int .i64 ki,.int .i64 a,.int .i64 b,v],.int .i64 d] w fun e w'=>e=.returned (.bool (decide (a≤d∧d<b)))∧Below w.heap.size w w':=by
 go_enter Tryz.func139,Tryz.ntmps139
 go_wp2
 all_goals
  go_ret
  exact ⟨ret_bool (by first | rfl | exact (Bool.decide_and _ _).symm | (simp [*];done) | (simp;omega)),Bw.out⟩
def ftrsL (l:List FtrM) (day:Int) (ch:Int→Bool):List Rc:=l.flatMap fun r=>if (r.since≤day∧day<r.till)∧ch r.kind=true then r.s.l else []
theorem ftrsL_snoc {l:List FtrM} {k:Nat} (h:k<l.length) (day:Int) (ch:Int→Bool):ftrsL (l.take (k+1)) day ch=ftrsL (l.take k) day ch++(if (l[k].since≤day∧day<l[k].till)∧ch l[k].kind=true then l[k].s.l else []):=by
 unfold ftrsL
 rw [List.take_succ_eq_append_getElem h,List.flatMap_append]
 simp
theorem ftrsL_len {l:List FtrM} (h:∀ r ∈ l,r.s.l.length≤120) (day:Int) (ch:Int→Bool):(ftrsL l day ch).length≤l.length * 120:=by
 induction l with
 | nil=>simp [ftrsL]
 | cons r l ih =>
  have h1:=ih fun s hs=>h s (List.mem_cons_of_mem _ hs)
  have h2:=h r List.mem_cons_self
  have e:ftrsL (r :: l) day ch=(if (r.since≤day∧day<r.till)∧ch r.kind=true then r.s.l else [])++ftrsL l day ch:=by simp [ftrsL]
  rw [e,List.length_append,List.length_cons]
  split <;> simp <;> omega
theorem ftrsL_in {l:List FtrM} {day:Int} {ch:Int→Bool} {x y:Int}:inRc (ftrsL l day ch) x y↔∃ r ∈ l,(r.since≤day∧day<r.till)∧ch r.kind=true∧inRc r.s.l x y:=by
 unfold inRc ftrsL
 constructor
 ·rintro ⟨q,hq,h⟩
  obtain ⟨r,hr,hq⟩:=List.mem_flatMap.1 hq
  split at hq
  ·rename_i hc;exact ⟨r,hr,hc.1,hc.2,q,hq,h⟩
  ·cases hq
 ·rintro ⟨r,hr,h1,h2,q,hq,h⟩
  exact ⟨q,List.mem_flatMap.2 ⟨r,hr,by rw [if_pos ⟨h1,h2⟩];exact hq⟩,h⟩
theorem frects_any (s:Sc FtrM) (day:Int) (g:Nat) (lb:Array Value) (eg:Enters g) (ok:Int→Prop) (ch:Int→Bool) (w:World) (hR:Rws encFtr w s 60) (hr:∀ r ∈ s.l,ScOk2 w r.s∧r.s.n≤120∧ok r.kind) (hp:Picks w g lb ok ch) :
  Calls Tryz.prog 151 #[sl s,.int .i64 day,.func (.func g) #[] lb] w (NewRc w (ftrsL s.l day ch)):=by
 obtain ⟨a,n,c,l⟩:=s
 have HR:=hid hR;have HS:=hid hr;have HP:=hid hp
 have hn:l.length=n:=hR.len
 have HN:=hid hn
 have hm:n≤60:=hR.few
 have hl:∀ k,(ftrsL (l.take k) day ch).length≤24000:=fun k=>by
  have:=ftrsL_len (l:=l.take k) (fun r hr'=>by have:=hr r (List.mem_of_mem_take hr');have h1:=this.1.1.2.1;have h2:=this.2.1;omega) day ch
  rw [List.length_take] at this
  omega
 have HL:=hid hl
 clear hR hr hp hn hl
 unfold Enters at eg
 dsimp only [sl]
 go_enter Tryz.func151,Tryz.ntmps151
 go_wp2
 go_loopw [7,12] (fun v i wr=>RowW w 87 4 n (fun j=>rcCells (ftrsL (l.take j) day ch)) (fun j=>(ftrsL (l.take j) day ch).length) v i wr) (fun _ i _=>n - (intOf i).toNat)
 case atStart=>exact ⟨0,Nat.zero_le _,rfl,World.ownsRow_nil _ _ _ _,Below.refl _ _⟩
 case round =>
  obtain ⟨k,hk,rfl,hown,hb⟩:=hrel
  dsimp only at hown
  have hLk:=HL.out k
  obtain ⟨L,hL⟩:∃ L,ftrsL (l.take k) day ch=L:=⟨_,rfl⟩
  rw [hL] at hown hLk
  have HLL:=hid hL
  clear hL
  obtain ⟨a0,c0,rfl,-,-,-⟩:=own_form hown
  by_cases hlt:k<n
  ·have hke:k<l.length:=by rw [HN.out];exact hlt
   obtain ⟨b,off,rfl,hbl,hrg⟩:=HR.out.vw.range (k:=5) (fun x _=>encFtr_len x) (by omega) k hke
   have HRG:=hid (rangeAt_below hrg hb)
   have HSK:=hid (HS.out _ (List.getElem_mem hke))
   have HSN:=hid (ftrsL_snoc hke day ch)
   clear hrg
   obtain ⟨r,hr⟩:∃ r,l[k]=r:=⟨_,rfl⟩
   rw [hr] at HRG HSK HSN
   clear hr hke
   obtain ⟨nu,ki,si,ti,ra,rn,rc,rl⟩:=r
   have HOK:=hid (HSK.out.1.below hb)
   have hrn:rn≤120:=HSK.out.2.1
   have HPK:=hid fun W (hW:Below w.heap.size w W)=>HP.out W hW ki HSK.out.2.2
   have OWN:=hid hown;have HB:=hid hb
   have yb:=hb.size
   clear hown hb
   dsimp only [encFtr] at HRG HSN
   have c0:=HRG.out 0 _ rfl
   have c1:=HRG.out 1 _ rfl
   have c2:=HRG.out 2 _ rfl
   have c3:=HRG.out 3 _ rfl
   have c4:=HRG.out 4 _ rfl
   simp only [Nat.add_zero] at c0
   have TH:RowKit.Hid (∀ W,Calls Tryz.prog 139 #[.agg #[.int .i64 nu,.int .i64 ki,.int .i64 si,.int .i64 ti,.slice ra rn rc],.int .i64 day] W fun e w'=>e=.returned (.bool (decide (si≤day∧day<ti)))∧Below W.heap.size W w'):=fun W=>there_any _ _ _ _ _ _ rfl W
   obtain ⟨t,ht⟩:∃ t,decide (si≤day∧day<ti)=t:=⟨_,rfl⟩
   have HT:=hid ht
   rw [ht] at TH
   clear ht
   cases t with
   | true =>
    obtain ⟨d,hd⟩:∃ d,ch ki=d:=⟨_,rfl⟩
    have HD:=hid hd
    rw [hd] at HPK
    clear hd
    cases d with
    | true =>
     go_wp2_with (first
      | (go_at_call 139;refine (TH.out _).mono ?_;rintro e w3 ⟨rfl,hb3⟩;have y1:w3.cell? ⟨wr.heap.size,1,none⟩=some (.int .i64 ki):=bc1 hb3 (by simp [go_sem]);have yy:=World.block_lt_of_cell? w3 _ y1;have y4:w3.cell? ⟨wr.heap.size,4,none⟩=some (.slice ra rn rc):=bc1 hb3 (by simp [go_sem]);have B3:=hid (btr Bw.out hb3:Below wr.heap.size wr w3))
      | (go_at_fn g;refine (HPK.out _ (btr HB.out B3.out)).mono ?_;rintro e w4 ⟨rfl,hb4⟩;have z2:w4.cell? ⟨wr.heap.size,4,none⟩=some (.slice ra rn rc):=bc1 hb4 y4;have B4:=hid (btr B3.out hb4))
      | (at_builtin;refine app_list elRc rfl _ _ rfl w.heap.size _ L.length (rcCells L) rfl (own_keep OWN.out B4.out) ra rn rc (rcCells rl) rfl (HOK.out.1.1.below B4.out) HOK.out.2.1 (by rw [cellsOf_length encRc_len];exact congrArg (· * 4) HOK.out.1.2.1) (oneC_cells oneC_rc rl) (by omega) (by have:=B4.out.size;omega) ?_;intro v2 w2 hown2 hg2 _))
     go_roundw
     case rel =>
      have eL:ftrsL (l.take (k+1)) day ch=L++rl:=by rw [HSN.out,HLL.out,if_pos ⟨of_decide_eq_true HT.out,HD.out⟩]
      refine ⟨k+1,by omega,by go_num,?_,below_app (own_keep OWN.out B4.out) (btr HB.out B4.out) hg2⟩
      dsimp only
      have hrl:rl.length=rn:=HOK.out.1.2.1
      rw [eL,List.length_append,show rcCells (L++rl)=rcCells L++rcCells rl from cellsOf_append L rl,hrl]
      exact hown2
     case measure=>simp [intOf];omega
    | false =>
     go_wp2_with (first
      | (go_at_call 139;refine (TH.out _).mono ?_;rintro e w3 ⟨rfl,hb3⟩;have y1:w3.cell? ⟨wr.heap.size,1,none⟩=some (.int .i64 ki):=bc1 hb3 (by simp [go_sem]);have yy:=World.block_lt_of_cell? w3 _ y1;have B3:=hid (btr Bw.out hb3:Below wr.heap.size wr w3))
      | (go_at_fn g;refine (HPK.out _ (btr HB.out B3.out)).mono ?_;rintro e w4 ⟨rfl,hb4⟩;have B4:=hid (btr B3.out hb4)))
     go_roundw
     case rel =>
      have eL:ftrsL (l.take (k+1)) day ch=L:=by rw [HSN.out,HLL.out,if_neg (fun h=>by have:=HD.out;rw [h.2] at this;cases this),List.append_nil]
      refine ⟨k+1,by omega,by go_num,?_,btr HB.out B4.out⟩
      dsimp only
      rw [eL]
      exact own_keep OWN.out B4.out
     case measure=>simp [intOf];omega
   | false =>
    go_wp2_with (go_at_call 139;refine (TH.out _).mono ?_;rintro e w3 ⟨rfl,hb3⟩;have B3:=hid (btr Bw.out hb3:Below wr.heap.size wr w3))
    go_roundw
    case rel =>
     have eL:ftrsL (l.take (k+1)) day ch=L:=by rw [HSN.out,HLL.out,if_neg (fun h=>of_decide_eq_false HT.out h.1),List.append_nil]
     refine ⟨k+1,by omega,by go_num,?_,btr HB.out B3.out⟩
     dsimp only
     rw [eL]
     exact own_keep OWN.out B3.out
    case measure=>simp [intOf];omega
  ·have e:=HLL.out
   rw [List.take_of_length_le (by have:=HN.out;omega)] at e
   have HE:=hid e;have OWN:=hid hown;have HB:=hid hb
   clear hown hb e
   go_wp2
   go_ret
   refine ⟨_,rfl,?_,HB.out⟩
   rw [HE.out]
   exact OWN.out
def overB (q r:Rc):Bool:=decide (q.1<r.2.2.1) && decide (r.1<q.2.2.1) && decide (q.2.1<r.2.2.2) && decide (r.2.1<q.2.2.2)
theorem overB_iff {q r:Rc} (hq:Prp q) (hr:Prp r):overB q r=true↔∃ x y:Int,(q.1≤x∧x<q.2.2.1∧q.2.1≤y∧y<q.2.2.2)∧(r.1≤x∧x<r.2.2.1∧r.2.1≤y∧y<r.2.2.2):=by
 unfold overB Prp at *
 rw [Bool.and_eq_true,Bool.and_eq_true,Bool.and_eq_true,decide_eq_true_eq,decide_eq_true_eq,decide_eq_true_eq,decide_eq_true_eq]
 constructor
 ·rintro ⟨⟨⟨h1,h2⟩,h3⟩,h4⟩
  exact ⟨max q.1 r.1,max q.2.1 r.2.1,⟨by omega,by omega,by omega,by omega⟩,by omega,by omega,by omega,by omega⟩
 ·rintro ⟨x,y,h1,h2⟩
  exact ⟨⟨⟨by omega,by omega⟩,by omega⟩,by omega⟩
theorem overB_any {l m:List Rc} (hl:∀ q ∈ l,Prp q) (hm:∀ q ∈ m,Prp q):(l.any fun q=>m.any fun r=>overB q r)=true↔Meet l m:=by
 rw [List.any_eq_true]
 unfold Meet inRc
 constructor
 ·rintro ⟨q,hq,h⟩
  rw [List.any_eq_true] at h
  obtain ⟨r,hr,h⟩:=h
  obtain ⟨x,y,h1,h2⟩:=(overB_iff (hl q hq) (hm r hr)).1 h
  exact ⟨x,y,⟨q,hq,h1⟩,r,hr,h2⟩
 ·rintro ⟨x,y,⟨q,hq,h1⟩,r,hr,h2⟩
  exact ⟨q,hq,List.any_eq_true.2 ⟨r,hr,(overB_iff (hl q hq) (hm r hr)).2 ⟨x,y,h1,h2⟩⟩⟩
theorem no_true {b:Bool} (h:b=true→False):b=false:=by
 cases b with
 | true=>exact (h rfl).elim
 | false=>rfl
theorem rcInfo4:(Tryz.prog.info? 87).map (·.size)=some 4:=by kernel_rfl
theorem over_any (q r:Rc) (w:World):Calls Tryz.prog 176 #[.agg (encRc q).toArray,.agg (encRc r).toArray] w fun e w'=>e=.returned (.bool (overB q r))∧Below w.heap.size w w':=by
 obtain ⟨q0,q1,q2,q3⟩:=q
 obtain ⟨r0,r1,r2,r3⟩:=r
 unfold overB
 show Calls Tryz.prog _ #[.agg #[.int .i64 q0,.int .i64 q1,.int .i64 q2,.int .i64 q3],.agg #[.int .i64 r0,.int .i64 r1,.int .i64 r2,.int .i64 r3]] w _
 dsimp only
 go_enter Tryz.func176,Tryz.ntmps176
 go_wp2
 all_goals
  go_ret
  exact ⟨ret_bool (by first | rfl | (simp [*];done) | (simp;omega)),Bw.out⟩
theorem meets11_any (q r:Rc) (b:Nat) (w:World) (hB:Blk w b 87 (encRc q).toArray) :
  Calls Tryz.prog 175 (#[.agg (encRc r).toArray]++#[.pointer (some ⟨b,0,none⟩)]) w fun e w'=>e=.returned (.bool (overB q r))∧Below w.heap.size w w':=by
 have HO:=hid fun W=>over_any q r W
 have HB:RowKit.Hid (Blk (w.alloc (.cells (encRc r).toArray 87)) b 87 (encRc q).toArray):=hB.alloc _
 have HR:RowKit.Hid (Blk (w.alloc (.cells (encRc r).toArray 87)) w.heap.size 87 (encRc r).toArray):=Blk.new _ _ _
 clear hB
 obtain ⟨lq,hq⟩:∃ lq,(encRc q).toArray=lq:=⟨_,rfl⟩
 obtain ⟨lr,hr⟩:∃ lr,(encRc r).toArray=lr:=⟨_,rfl⟩
 have sq:RowKit.Hid (lq.size=4):=by show lq.size=4;rw [← hq];rfl
 have sr:RowKit.Hid (lr.size=4):=by show lr.size=4;rw [← hr];rfl
 rw [hq,hr] at HO
 rw [hq,hr] at HB
 rw [hr] at HR ⊢
 show Calls Tryz.prog _ #[.agg lr,.pointer (some ⟨b,0,none⟩)] w _
 clear hq hr
 go_enter Tryz.func175,Tryz.ntmps175
 go_wp2_with (first
  | (refine wpList_load_row rfl 87 (.tmp 1) rfl b rfl _ lq _ _ HB.out Tryz.underlying87 rfl (by rw [sq.out];exact rcInfo4) ?_)
  | (refine wpList_load_row rfl 87 (.tmp 2) rfl w.heap.size rfl _ lr _ _ HR.out Tryz.underlying87 rfl (by rw [sr.out];exact rcInfo4) ?_)
  | (go_at_call 176;refine (HO.out _).mono ?_;rintro e w1 ⟨rfl,hb1⟩))
 go_ret
 exact ⟨rfl,btr Bw.out hb1⟩
theorem en_meets11:Enters 175:=enters_of Tryz.func175 (by kernel_rfl) rfl
theorem meets1_any (q:Rc) (b:Nat) (a:Option Addr) (n c:Nat) (l:List Rc) (w:World) (hB:Blk w b 38 #[.slice a n c]) (hV:Vw w a (rcCells l)) (hn:l.length=n) (hm:n≤9223372036854775807) :
  Calls Tryz.prog 174 (#[.agg (encRc q).toArray]++#[.pointer (some ⟨b,0,none⟩)]) w fun e w'=>e=.returned (.bool (l.any fun r=>overB q r))∧Below w.heap.size w w':=by
 have HC:RowKit.Hid (∀ W,Below w.heap.size w W→Blk W w.heap.size 87 (encRc q).toArray→Calls Tryz.prog 140 #[.slice a n c,.func (.func 175) #[] #[.pointer (some ⟨w.heap.size,0,none⟩)]] W fun e w'=>e=.returned (.bool (l.any fun r=>overB q r))∧Below W.heap.size W w'):=fun W hW hq =>
  cfRc encRc _ _ en_meets11 a n c l _ W (hV.below hW) hn hm (fun _ _=>rfl) fun W' hW' r _=>meets11_any q r w.heap.size W' (hq.below hW')
 have x0:(w.alloc (.cells (encRc q).toArray 87)).cell? ⟨b,0,none⟩=some (.slice a n c):=(hB.alloc _).cell 0
 have HR:RowKit.Hid (Blk (w.alloc (.cells (encRc q).toArray 87)) w.heap.size 87 (encRc q).toArray):=Blk.new _ _ _
 clear hB hV
 obtain ⟨lq,hq⟩:∃ lq,(encRc q).toArray=lq:=⟨_,rfl⟩
 rw [hq] at x0 HR HC ⊢
 show Calls Tryz.prog _ #[.agg lq,.pointer (some ⟨b,0,none⟩)] w _
 clear hq
 go_enter Tryz.func174,Tryz.ntmps174
 go_wp2_with (go_at_call 140;refine (HC.out _ Bw.out HR.out).mono ?_;rintro e w1 ⟨rfl,hb1⟩)
 go_ret
 exact ⟨rfl,btr Bw.out hb1⟩
theorem en_meets1:Enters 174:=enters_of Tryz.func174 (by kernel_rfl) rfl
theorem meets_any (a1:Option Addr) (n1 c1:Nat) (l1:List Rc) (a2:Option Addr) (n2 c2:Nat) (l2:List Rc) (w:World) (h1:Vw w a1 (rcCells l1)) (e1:l1.length=n1) (m1:n1≤9223372036854775807) (h2:Vw w a2 (rcCells l2)) (e2:l2.length=n2) (m2:n2≤9223372036854775807) :
  Calls Tryz.prog 134 #[.agg #[.slice a1 n1 c1],.agg #[.slice a2 n2 c2]] w (Says w (Vld l1∧Vld l2∧Meet l1 l2)):=by
 obtain ⟨W,hW⟩:∃ W,(w.alloc (.cells #[.slice a1 n1 c1] 38)).alloc (.cells #[.slice a2 n2 c2] 38)=W:=⟨_,rfl⟩
 have B1:RowKit.Hid (Blk W w.heap.size 38 #[.slice a1 n1 c1]):=by show Blk _ _ _ _;rw [← hW];exact (Blk.new w _ _).alloc _
 have B2:RowKit.Hid (Blk W (w.heap.size+1) 38 #[.slice a2 n2 c2]):=by show Blk _ _ _ _;rw [← hW];exact Blk.fresh (by simp)
 have BB:RowKit.Hid (Below w.heap.size w W):=by show Below _ _ _;rw [← hW];exact Bw.out
 have HV1:=hid fun W' (hW':Below W.heap.size W W')=>valid_any a1 n1 c1 l1 W' (h1.below (btr BB.out hW')) e1 m1
 have HV2:=hid fun W' (hW':Below W.heap.size W W')=>valid_any a2 n2 c2 l2 W' (h2.below (btr BB.out hW')) e2 m2
 have HC:RowKit.Hid (∀ W',Below W.heap.size W W'→Calls Tryz.prog 140 #[.slice a1 n1 c1,.func (.func 174) #[] #[.pointer (some ⟨w.heap.size+1,0,none⟩)]] W' fun e w'=>e=.returned (.bool (l1.any fun q=>l2.any fun r=>overB q r))∧Below W'.heap.size W' w'):=fun W' hW' =>
  cfRc encRc _ _ en_meets1 a1 n1 c1 l1 _ W' (h1.below (btr BB.out hW')) e1 m1 (fun _ _=>rfl) fun W2 hW2 q _=>meets1_any q (w.heap.size+1) a2 n2 c2 l2 W2 (B2.out.below (btr hW' hW2)) (h2.below (btr (btr BB.out hW') hW2)) e2 m2
 have HO:=hid fun (v1:Vld l1) (v2:Vld l2)=>overB_any v1.2.1 v2.2.1
 clear h1 h2
 obtain ⟨v,hv⟩:∃ v,(l1.any fun q=>l2.any fun r=>overB q r)=v:=⟨_,rfl⟩
 rw [hv] at HC HO
 have x1:W.cell? ⟨w.heap.size,0,none⟩=some (.slice a1 n1 c1):=B1.out.cell 0
 have x2:W.cell? ⟨w.heap.size+1,0,none⟩=some (.slice a2 n2 c2):=B2.out.cell 0
 clear hv
 by_cases v1:Vld l1
 ·have V1:=hid v1
  clear v1
  by_cases v2:Vld l2
  ·have V2:=hid v2
   clear v2
   go_enter Tryz.func134,Tryz.ntmps134
   go_wp2_with (first
    | (go_at_call 96;first
     | ((with_reducible refine (HV1.out _ (Below.refl _ _)).mono ?_);rintro e w1 ⟨b1,rfl,hi,hb1⟩;obtain rfl:b1=true:=hi.2 V1.out;clear hi;have y1:=bc1 hb1 x1;have y2:=bc1 hb1 x2;have HB1:=hid hb1;clear hb1)
     | ((with_reducible refine (HV2.out _ HB1.out).mono ?_);rintro e w2 ⟨b2,rfl,hi,hb2⟩;obtain rfl:b2=true:=hi.2 V2.out;clear hi;have z1:=bc1 hb2 y1;have z2:=bc1 hb2 y2;have HB2:=hid (btr HB1.out hb2);clear hb2))
    | (go_at_call 140;refine (HC.out _ HB2.out).mono ?_;rintro e w3 ⟨rfl,hb3⟩))
   go_ret
   refine ⟨v,rfl,(?_:v=true↔_),btr (btr BB.out HB2.out) hb3⟩
   rw [HO.out V1.out V2.out]
   exact ⟨fun h=>⟨V1.out,V2.out,h⟩,fun h=>h.2.2⟩
  ·have V2:=hid v2
   clear v2
   go_enter Tryz.func134,Tryz.ntmps134
   go_wp2_with (first
    | (go_at_call 96;first
     | ((with_reducible refine (HV1.out _ (Below.refl _ _)).mono ?_);rintro e w1 ⟨b1,rfl,hi,hb1⟩;obtain rfl:b1=true:=hi.2 V1.out;clear hi;have y1:=bc1 hb1 x1;have y2:=bc1 hb1 x2;have HB1:=hid hb1;clear hb1)
     | ((with_reducible refine (HV2.out _ HB1.out).mono ?_);rintro e w2 ⟨b2,rfl,hi,hb2⟩;obtain rfl:b2=false:=no_true fun h=>V2.out (hi.1 h);clear hi;have HB2:=hid (btr HB1.out hb2);clear hb2)))
   go_ret
   exact ⟨false,rfl,⟨(fun h=>by cases h),fun h=>absurd h.2.1 V2.out⟩,btr BB.out HB2.out⟩
 ·have V1:=hid v1
  clear v1
  go_enter Tryz.func134,Tryz.ntmps134
  go_wp2_with (go_at_call 96;refine (HV1.out _ (Below.refl _ _)).mono ?_;rintro e w1 ⟨b1,rfl,hi,hb1⟩;obtain rfl:b1=false:=no_true fun h=>V1.out (hi.1 h);clear hi;have HB1:=hid hb1;clear hb1)
  go_ret
  exact ⟨false,rfl,⟨(fun h=>by cases h),fun h=>absurd h.1 V1.out⟩,btr BB.out HB1.out⟩
end Go.Proofs.YtancajcelmhnkaaGreatDoor
