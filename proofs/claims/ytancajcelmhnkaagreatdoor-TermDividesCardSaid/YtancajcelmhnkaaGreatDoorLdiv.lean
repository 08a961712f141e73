/- The law TermDivides,walked. -/
import Derived.Test.YtancajcelmhnkaaGreatDoorGy
import Derived.Test.YtancajcelmhnkaaGreatDoorKterm
import Derived.Test.YtancajcelmhnkaaGreatDoorAwk
namespace Go.Proofs.YtancajcelmhnkaaGreatDoor
open Go.RowKit Go.Sort Go.Shelf
set_option linter.unusedVariables false
set_option linter.unusedSimpArgs false
theorem line_info : (Tryz.prog.info? 42).map (·.size) = some 4:=by kernel_rfl
theorem tr_one (a b c : Option Addr) (n m k n' m' k' : Nat) : (#[.slice a n n',.slice b m m',.slice c k k'] : Array Value).all (·.oneCell') = true:=by
  rw [List.all_toArray];rfl
structure DivW (W : World) (gl gt : Nat) (rc y n o : Sc Rc) (E : Env) (p : Pr) : Prop where
  line : W.cell? ⟨gl,1,none⟩ = some (.slice rc.a rc.n rc.c)
  t0 : W.cell? ⟨gt,0,none⟩ = some (.slice y.a y.n y.c)
  t1 : W.cell? ⟨gt,1,none⟩ = some (.slice n.a n.n n.c)
  t2 : W.cell? ⟨gt,2,none⟩ = some (.slice o.a o.n o.c)
  rcs : CanS W E.R rc
  ys : CanS W p.yes y
  ns : CanS W p.no n
  os : CanS W (E.rest p) o
  fine : E.Fine p
  bd : ∀ x y,E.R x y→0≤x∧x < 10∧0≤y∧y < 10
theorem DivW.below {W W' : World} {gl gt : Nat} {rc y n o : Sc Rc} {E : Env} {p : Pr} (h : DivW W gl gt rc y n o E p) (hb : Below W.heap.size W W') : DivW W' gl gt rc y n o E p :=
  ⟨bc1 hb h.line,bc1 hb h.t0,bc1 hb h.t1,bc1 hb h.t2,h.rcs.below hb,h.ys.below hb,h.ns.below hb,h.os.below hb,h.fine,h.bd⟩
theorem tr_apart {w : World} {p : Nat} {T : TypeId} {x y z : Option Addr} {n k n' k' n'' k'' : Nat} {s : Sc Rc} (hB : Blk w p T #[.slice x n k,.slice y n' k',.slice z n'' k'']) (h : ScOk2 w s) (hl : s.l ≠ []) : ∀ g off,s.a = some ⟨g,off,none⟩→g ≠ p:=by
  rintro g off e rfl
  obtain ⟨q,t,hq⟩:=List.exists_cons_of_ne_nil hl
  have h0 : (rcCells s.l)[0]? = some (.int .i64 q.1):=by rw [hq];rfl
  obtain ⟨c0,o0,e0,hc0⟩:=h.1.1 0 _ h0
  rw [e] at e0
  cases e0
  rw [hB.cell] at hc0
  have ho : off + 0 < 3:=by
    have:=(Array.getElem?_eq_some_iff.1 hc0).1
    simpa using this
  have hc : off = 0∨off = 1∨off = 2:=by omega
  rcases hc with rfl | rfl | rfl <;> simp at hc0
theorem can_set3 {w : World} {g : Nat} {T : TypeId} {S : Sq} {s : Sc Rc} {x y z : Option Addr} {n k n' k' n'' k'' : Nat} {u0 u1 u2 : Value} (hB : Blk w g T #[.slice x n k,.slice y n' k',.slice z n'' k'']) (h : CanS w S s) :
    CanS (((w.setCell ⟨g,0,none⟩ u0).setCell ⟨g,1,none⟩ u1).setCell ⟨g,2,none⟩ u2) S s:=by
  by_cases hl : s.l = []
  · exact ⟨ok_nil h.ok hl,h.can⟩
  · have hf : FarS g s:=fun _=>tr_apart hB h.ok hl
    exact can_set hf (can_set hf (can_set hf h))
set_option maxRecDepth 100000 in
set_option maxHeartbeats 4000000 in
theorem divides_any (A : Option Addr) (len cap : Nat) (zs : List Int) (w : World) (hr : IsRow .i64 w A len cap zs) :
    Calls Tryz.prog 4 #[.slice A len cap] w fun e w'=>e = .returned (.bool true)∧Below w.heap.size w w':=by
  have HN:=Lib.hid (new_any A len cap zs w hr)
  clear hr
  go_enter Tryz.func4,Tryz.ntmps4
  go_wp2_with (first
    | (go_at_call 11;refine HN.out.mono ?_;rintro e w1 ⟨rfl,hb1,ht1⟩;have B1:=Lib.hid hb1;have T1:=Lib.hid ht1;have y1:=ht1.lt;clear hb1 ht1)
    | (go_at_call 23;refine (kworld_any w.heap.size w1 T1.out).mono ?_;rintro e w2 ⟨⟨ra,rn,rcc,rl⟩,crop,⟨ca,cn,cc,cl⟩,⟨ha,hn,hc,hl⟩,⟨za,zn,zc,zl⟩,year,rfl,hk2,hs2⟩;have K2:=Lib.hid hk2;have S2:=Lib.hid hs2;have y2:=hs2.size;clear hk2 hs2)
    | (refine st_new rfl 42 (.tmp 4) (.tmp 16) rfl #[.int .i64 0,.slice ra rn rcc,.int .i64 crop,.int .i64 0] _ _ rfl rfl line_info rfl (line_one _ _ _ _ _ _) ?_))
  obtain ⟨W2,hW2⟩ : ∃ W2,w2.alloc (.cells #[.int .i64 0,.slice ra rn rcc,.int .i64 crop,.int .i64 0] 42) = W2:=⟨_,rfl⟩
  have BL:=Lib.hid (hW2 ▸ Blk.new w2 _ _ : Blk W2 w2.heap.size 42 #[.int .i64 0,.slice ra rn rcc,.int .i64 crop,.int .i64 0])
  have S3:=Lib.hid (hW2 ▸ sal S2.out _ : Steps1 w.heap.size w1 W2)
  have K3:=Lib.hid (K2.out.holed (hole_steps (hW2 ▸ sal (Steps1.refl S2.out.now) _ : Steps1 w.heap.size w2 W2)))
  have y3:=BL.out.lt
  have c0 : W2.cell? ⟨w2.heap.size,0,none⟩ = some (.int .i64 0):=BL.out.cell 0
  have c1 : W2.cell? ⟨w2.heap.size,1,none⟩ = some (.slice ra rn rcc):=BL.out.cell 1
  have c2 : W2.cell? ⟨w2.heap.size,2,none⟩ = some (.int .i64 crop):=BL.out.cell 2
  have c3 : W2.cell? ⟨w2.heap.size,3,none⟩ = some (.int .i64 0):=BL.out.cell 3
  rw [hW2]
  clear hW2
  have NE : RowKit.Hid (w2.heap.size ≠ w.heap.size):=by show _ ≠ _;omega
  have HT:=Lib.hid fun X (hX : Steps1 w.heap.size W2 X)=>kterm_any 2 w.heap.size X hX.now (by decide)
  have ST:=Lib.hid (Steps1.refl S3.out.now)
  go_upto_region 3 with fail
  go_cut [9,10] (fun s9 s10 wx=>∃ (gt : Nat) (rc y n o : Sc Rc) (E : Env) (p : Pr),s9 = .pointer (some ⟨gt,0,none⟩)∧s10 = .int .i64 0∧DivW wx w2.heap.size gt rc y n o E p∧Below w.heap.size w wx)
  case first =>
    go_region_held3 (fun w'=>w'.cell? ⟨w2.heap.size,0,none⟩ = some (.int .i64 0)∧w'.cell? ⟨w2.heap.size,1,none⟩ = some (.slice ra rn rcc)∧w'.cell? ⟨w2.heap.size,2,none⟩ = some (.int .i64 crop)∧w'.cell? ⟨w2.heap.size,3,none⟩ = some (.int .i64 0)) (first | exact ⟨c0,c1,c2,c3⟩ | exact ⟨bc1 (bal (Below.refl _ _) _) c0,bc1 (bal (Below.refl _ _) _) c1,bc1 (bal (Below.refl _ _) _) c2,bc1 (bal (Below.refl _ _) _) c3⟩ | exact ⟨d0,d1,d2,d3⟩ | exact ⟨bc1 (bal (Below.refl _ _) _) d0,bc1 (bal (Below.refl _ _) _) d1,bc1 (bal (Below.refl _ _) _) d2,bc1 (bal (Below.refl _ _) _) d3⟩ | exact ⟨e0,e1,e2,e3⟩ | exact ⟨bc1 (bal (Below.refl _ _) _) e0,bc1 (bal (Below.refl _ _) _) e1,bc1 (bal (Below.refl _ _) _) e2,bc1 (bal (Below.refl _ _) _) e3⟩ | exact ⟨cell_far3 NT.out e0,cell_far3 NT.out e1,cell_far3 NT.out e2,cell_far3 NT.out e3⟩ | simp [go_sem, *])
      (first
        | (go_at_call 18;go_loud (refine (HT.out _ (by first | exact sdr ST.out | exact sal (sdr ST.out) _)).mono ?_);rintro e w4 ⟨⟨op,num,more,ta,tn,tc,tk⟩,rfl,ht4,hs4⟩;go_loud (have SX4 : RowKit.Hid (Steps1 w.heap.size W2 w4):=(by first | exact sts (sdr ST.out) hs4 | exact sts (sal (sdr ST.out) _) hs4);have y4:=SX4.out.size;have CK4:=Lib.hid (ht4.chk (by decide));have FR4:=Lib.hid (ht4.fr.le (show W2.heap.size≤_ by first | exact Nat.le_refl _ | simp));have HE4:=Lib.hid (fun W' (hW' : Below w4.heap.size w4 W')=>KW.eval ((K3.out.holed (hole_steps SX4.out)).holed (hole_below hW' (by omega))) ((ht4.ok.holedF FR4.out (show w.heap.size < W2.heap.size by omega)).beh (hole_below hW' (by omega))) CK4.out (by decide : (0 : Int)≤9) (by decide));have d0:=sc1 SX4.out c0 NE.out;have d1:=sc1 SX4.out c1 NE.out;have d2:=sc1 SX4.out c2 NE.out;have d3:=sc1 SX4.out c3 NE.out;(try (have Z4 : RowKit.Hid (Blk w4 W2.heap.size 55 #[.slice none 0 0,.slice none 0 0,.slice none 0 0]):=(Blk.new W2.drew _ _).step hs4 (by show W2.heap.size ≠ _;omega)));dsimp only [encTm];clear ht4 hs4))
        | (go_at_call 20;go_loud (refine (HE4.out _ (by (repeat (with_reducible first | assumption | exact Below.refl _ _ | refine bdr ?_ | refine bdn ?_ _ | refine bal ?_ _)))).mono ?_);rintro e w5 ⟨⟨ya,yn,yc,yl⟩,⟨na,nn,nc,nl⟩,⟨oa,on,oc,ol⟩,rfl,hy5,hn5,ho5,hb5,hf5⟩;go_loud (have B5 : RowKit.Hid (Below w4.heap.size w4 w5):=btr (by (repeat (with_reducible first | assumption | exact Below.refl _ _ | refine bdr ?_ | refine bdn ?_ _ | refine bal ?_ _))) hb5;have e0:=bc1 B5.out d0;have e1:=bc1 B5.out d1;have e2:=bc1 B5.out d2;have e3:=bc1 B5.out d3;have y5:=B5.out.size;(first | (have Z5 : RowKit.Hid (Blk w5 W2.heap.size 55 #[.slice none 0 0,.slice none 0 0,.slice none 0 0]):=Z4.out.below B5.out;have NT : RowKit.Hid (w2.heap.size ≠ W2.heap.size):=(by show _ ≠ _;omega);have z0 : w5.cell? ⟨W2.heap.size,0,none⟩ = some (.slice none 0 0):=Z5.out.cell 0;have z1 : w5.cell? ⟨W2.heap.size,1,none⟩ = some (.slice none 0 0):=Z5.out.cell 1;have z2 : w5.cell? ⟨W2.heap.size,2,none⟩ = some (.slice none 0 0):=Z5.out.cell 2;have f0:=Z5.out.free 0;have f1:=Z5.out.free 1;have f2:=Z5.out.free 2;have zlt:=Z5.out.lt) | (have Z5 : RowKit.Hid (Blk w5 w4.heap.size 55 #[.slice none 0 0,.slice none 0 0,.slice none 0 0]):=(Blk.new w4 _ _).below hb5;have NT : RowKit.Hid (w2.heap.size ≠ w4.heap.size):=(by show _ ≠ _;omega);have z0 : w5.cell? ⟨w4.heap.size,0,none⟩ = some (.slice none 0 0):=Z5.out.cell 0;have z1 : w5.cell? ⟨w4.heap.size,1,none⟩ = some (.slice none 0 0):=Z5.out.cell 1;have z2 : w5.cell? ⟨w4.heap.size,2,none⟩ = some (.slice none 0 0):=Z5.out.cell 2;have f0:=Z5.out.free 0;have f1:=Z5.out.free 1;have f2:=Z5.out.free 2;have zlt:=Z5.out.lt) | skip);have Y5:=Lib.hid hy5;have N5:=Lib.hid hn5;have O5:=Lib.hid ho5;have F5:=Lib.hid hf5;clear hy5 hn5 ho5 hb5 hf5)))
    all_goals
      have KW5:=Lib.hid ((K3.out.holed (hole_steps SX4.out)).holed (hole_below B5.out (by omega)))
      have BW5:=Lib.hid (btr (bos (bos B1.out (Nat.le_refl _) S3.out) (Nat.le_refl _) SX4.out) B5.out)
    · go_wp2
      go_meet
      case rel =>
        have BT:=Blk.new w5 55 #[.slice ya yn yc,.slice na nn nc,.slice oa on oc]
        have BA : Below w5.heap.size w5 (w5.alloc (.cells #[.slice ya yn yc,.slice na nn nc,.slice oa on oc] 55)):=(by (repeat (with_reducible first | exact Below.refl _ _ | refine bdr ?_ | refine bdn ?_ _ | refine bal ?_ _)))
        exact ⟨w5.heap.size,⟨ra,rn,rcc,rl⟩,⟨ya,yn,yc,yl⟩,⟨na,nn,nc,nl⟩,⟨oa,on,oc,ol⟩,(kwP ⟨ra,rn,rcc,rl⟩ crop ⟨ca,cn,cc,cl⟩ ⟨ha,hn,hc,hl⟩ ⟨za,zn,zc,zl⟩ year 9).env,_,rfl,rfl,⟨bc1 BA e1,BT.cell 0,BT.cell 1,BT.cell 2,(⟨KW5.out.rok.fill,KW5.out.can⟩ : CanS w5 _ _).below BA,Y5.out.below BA,N5.out.below BA,O5.out.below BA,F5.out,KW5.out.bd⟩,btr BW5.out BA⟩
    · go_wp2
      go_meet
      case rel =>
        have BT:=Blk.put3 (v0:=.slice ya yn yc) (v1:=.slice na nn nc) (v2:=.slice oa on oc) Z5.out rfl
        exact ⟨w4.heap.size,⟨ra,rn,rcc,rl⟩,⟨ya,yn,yc,yl⟩,⟨na,nn,nc,nl⟩,⟨oa,on,oc,ol⟩,(kwP ⟨ra,rn,rcc,rl⟩ crop ⟨ca,cn,cc,cl⟩ ⟨ha,hn,hc,hl⟩ ⟨za,zn,zc,zl⟩ year 9).env,_,rfl,rfl,⟨cell_far3 NT.out e1,BT.cell 0,BT.cell 1,BT.cell 2,can_set3 Z5.out (⟨KW5.out.rok.fill,KW5.out.can⟩ : CanS w5 _ _),can_set3 Z5.out Y5.out,can_set3 Z5.out N5.out,can_set3 Z5.out O5.out,F5.out,KW5.out.bd⟩,bst (bst (bst BW5.out _ _ _ (by omega)) _ _ _ (by omega)) _ _ _ (by omega)⟩
    · go_wp2
      go_meet
      case rel =>
        have BT:=Blk.put3 (v0:=.slice ya yn yc) (v1:=.slice na nn nc) (v2:=.slice oa on oc) Z5.out rfl
        exact ⟨W2.heap.size,⟨ra,rn,rcc,rl⟩,⟨ya,yn,yc,yl⟩,⟨na,nn,nc,nl⟩,⟨oa,on,oc,ol⟩,(kwP ⟨ra,rn,rcc,rl⟩ crop ⟨ca,cn,cc,cl⟩ ⟨ha,hn,hc,hl⟩ ⟨za,zn,zc,zl⟩ year 9).env,_,rfl,rfl,⟨cell_far3 NT.out e1,BT.cell 0,BT.cell 1,BT.cell 2,can_set3 Z5.out (⟨KW5.out.rok.fill,KW5.out.can⟩ : CanS w5 _ _),can_set3 Z5.out Y5.out,can_set3 Z5.out N5.out,can_set3 Z5.out O5.out,F5.out,KW5.out.bd⟩,bst (bst (bst BW5.out _ _ _ (by omega)) _ _ _ (by omega)) _ _ _ (by omega)⟩
  case rest =>
  obtain ⟨gt,⟨ra',rn',rcc',rl'⟩,⟨ya,yn,yc,yl⟩,⟨na,nn,nc,nl⟩,⟨oa,on,oc,ol⟩,E,p,rfl,rfl,hD,hB⟩:=hcut
  have D:=Lib.hid hD;have BW:=Lib.hid hB
  have hs:=size_div2 hD.fine hD.ys.can hD.ns.can hD.os.can hD.rcs.can 10 (fun a b k=>by have:=hD.bd a b k;omega)
  have hb1:=size_few hD.ys (fun a b k=>hD.bd a b (hD.fine.yes a b k))
  have hb2:=size_few hD.ns (fun a b k=>hD.bd a b (hD.fine.no a b k))
  have hb3:=size_few hD.os (fun a b k=>hD.bd a b k.1)
  clear hD hB HT ST HN K2 K3 S2 S3 T1 B1 BL c0 c1 c2 c3
  have A0:=Lib.hid fun W' (hW' : Below wc.heap.size wc W')=>areaS (D.out.ys.below hW') (fun a b k=>D.out.bd a b (D.out.fine.yes a b k))
  have A1:=Lib.hid fun W' (hW' : Below wc.heap.size wc W')=>areaS (D.out.ns.below hW') (fun a b k=>D.out.bd a b (D.out.fine.no a b k))
  have A2:=Lib.hid fun W' (hW' : Below wc.heap.size wc W')=>areaS (D.out.os.below hW') (fun a b k=>D.out.bd a b k.1)
  have A3:=Lib.hid fun W' (hW' : Below wc.heap.size wc W')=>areaS (D.out.rcs.below hW') (D.out.bd)
  have A4:=Lib.hid fun W' (hW' : Below wc.heap.size wc W')=>meetsNo (D.out.ys.below hW') (D.out.ns.below hW') (fun a b h k=>D.out.fine.apart a b h k)
  have A5:=Lib.hid fun W' (hW' : Below wc.heap.size wc W')=>meetsNo (D.out.ys.below hW') (D.out.os.below hW') (fun a b h k=>k.2.1 h)
  have A6:=Lib.hid fun W' (hW' : Below wc.heap.size wc W')=>meetsNo (D.out.ns.below hW') (D.out.os.below hW') (fun a b h k=>k.2.2 h)
  have A7:=Lib.hid fun W' (hW' : Below wc.heap.size wc W')=>withinYes (D.out.ys.below hW') (D.out.rcs.below hW') (fun a b k=>D.out.bd a b (D.out.fine.yes a b k)) D.out.bd (fun a b k=>D.out.fine.yes a b k)
  have A8:=Lib.hid fun W' (hW' : Below wc.heap.size wc W')=>withinYes (D.out.ns.below hW') (D.out.rcs.below hW') (fun a b k=>D.out.bd a b (D.out.fine.no a b k)) D.out.bd (fun a b k=>D.out.fine.no a b k)
  have A9:=Lib.hid fun W' (hW' : Below wc.heap.size wc W')=>withinYes (D.out.os.below hW') (D.out.rcs.below hW') (fun a b k=>D.out.bd a b k.1) D.out.bd (fun a b k=>k.1)
  have A10:=Lib.hid fun W' (hW' : Below wc.heap.size wc W')=>awake_any W'
  have l1:=D.out.line;have q0:=D.out.t0;have q1:=D.out.t1;have q2:=D.out.t2
  dsimp only at hs hb1 hb2 hb3 l1 q0 q1 q2 A0 A1 A2 A3 A4 A5 A6 A7 A8 A9
  obtain ⟨x1,h1⟩ : ∃ x,sizeRc yl = x:=⟨_,rfl⟩
  obtain ⟨x2,h2⟩ : ∃ x,sizeRc nl = x:=⟨_,rfl⟩
  obtain ⟨x3,h3⟩ : ∃ x,sizeRc ol = x:=⟨_,rfl⟩
  obtain ⟨x4,h4⟩ : ∃ x,sizeRc rl' = x:=⟨_,rfl⟩
  rw [h1] at A0 hb1 hs
  rw [h2] at A1 hb2 hs
  rw [h3] at A2 hb3 hs
  rw [h4] at A3 hs
  clear h1 h2 h3 h4
  obtain ⟨x5,h5⟩ : ∃ x,x1 + x2 = x:=⟨_,rfl⟩
  obtain ⟨hb1,hb1'⟩:=hb1
  obtain ⟨hb2,hb2'⟩:=hb2
  obtain ⟨hb3,hb3'⟩:=hb3
  have hq1 : IntKind.i64.wrap (x1 + x2) = x5:=by rw [IntWalk.i64_in _ (by omega)];exact h5
  have hq2 : IntKind.i64.wrap (x5 + x3) = x4:=by rw [IntWalk.i64_in _ (by omega)];omega
  clear hs h5
  go_wp2_with fail
  go_region_held3 (fun w'=>w'.cell? ⟨w2.heap.size,1,none⟩ = some (.slice ra' rn' rcc')∧w'.cell? ⟨gt,0,none⟩ = some (.slice ya yn yc)∧w'.cell? ⟨gt,1,none⟩ = some (.slice na nn nc)∧w'.cell? ⟨gt,2,none⟩ = some (.slice oa on oc)) (exact ⟨l1,q0,q1,q2⟩) (first
    | (go_at_call 24;have q:=A0.out _ (bdr (Below.refl _ _));(with_reducible refine q.mono ?_);clear q;rintro e v1 ⟨rfl,hb⟩;have V1:=Lib.hid (btr (bdr (Below.refl _ _)) hb);clear hb;clear l1 q0 q1 q2;have D1:=Lib.hid (D.out.below V1.out);have l1:=D1.out.line;have q0:=D1.out.t0;have q1:=D1.out.t1;have q2:=D1.out.t2)
    | (go_at_call 24;have q:=A1.out _ V1.out;(with_reducible refine q.mono ?_);clear q;rintro e v2 ⟨rfl,hb⟩;have V2:=Lib.hid (btr V1.out hb);clear hb;clear l1 q0 q1 q2;have D2:=Lib.hid (D.out.below V2.out);have l1:=D2.out.line;have q0:=D2.out.t0;have q1:=D2.out.t1;have q2:=D2.out.t2)
    | (go_at_call 24;have q:=A2.out _ V2.out;(with_reducible refine q.mono ?_);clear q;rintro e v3 ⟨rfl,hb⟩;have V3:=Lib.hid (btr V2.out hb);clear hb;clear l1 q0 q1 q2;have D3:=Lib.hid (D.out.below V3.out);have l1:=D3.out.line;have q0:=D3.out.t0;have q1:=D3.out.t1;have q2:=D3.out.t2)
    | (go_at_call 24;have q:=A3.out _ V3.out;(with_reducible refine q.mono ?_);clear q;rintro e v4 ⟨rfl,hb⟩;have V4:=Lib.hid (btr V3.out hb);clear hb;clear l1 q0 q1 q2;have D4:=Lib.hid (D.out.below V4.out);have l1:=D4.out.line;have q0:=D4.out.t0;have q1:=D4.out.t1;have q2:=D4.out.t2)
    | (go_at_call 25;have q:=A4.out _ V4.out;(with_reducible refine q.mono ?_);clear q;rintro e v5 ⟨rfl,hb⟩;have V5:=Lib.hid (btr V4.out hb);clear hb;clear l1 q0 q1 q2;have D5:=Lib.hid (D.out.below V5.out);have l1:=D5.out.line;have q0:=D5.out.t0;have q1:=D5.out.t1;have q2:=D5.out.t2)
    | (go_at_call 25;have q:=A5.out _ V5.out;(with_reducible refine q.mono ?_);clear q;rintro e v6 ⟨rfl,hb⟩;have V6:=Lib.hid (btr V5.out hb);clear hb;clear l1 q0 q1 q2;have D6:=Lib.hid (D.out.below V6.out);have l1:=D6.out.line;have q0:=D6.out.t0;have q1:=D6.out.t1;have q2:=D6.out.t2)
    | (go_at_call 25;have q:=A6.out _ V6.out;(with_reducible refine q.mono ?_);clear q;rintro e v7 ⟨rfl,hb⟩;have V7:=Lib.hid (btr V6.out hb);clear hb;clear l1 q0 q1 q2;have D7:=Lib.hid (D.out.below V7.out);have l1:=D7.out.line;have q0:=D7.out.t0;have q1:=D7.out.t1;have q2:=D7.out.t2)
    | (go_at_call 26;have q:=A7.out _ V7.out;(with_reducible refine q.mono ?_);clear q;rintro e v8 ⟨rfl,hb⟩;have V8:=Lib.hid (btr V7.out hb);clear hb;clear l1 q0 q1 q2;have D8:=Lib.hid (D.out.below V8.out);have l1:=D8.out.line;have q0:=D8.out.t0;have q1:=D8.out.t1;have q2:=D8.out.t2)
    | (go_at_call 26;have q:=A8.out _ V8.out;(with_reducible refine q.mono ?_);clear q;rintro e v9 ⟨rfl,hb⟩;have V9:=Lib.hid (btr V8.out hb);clear hb;clear l1 q0 q1 q2;have D9:=Lib.hid (D.out.below V9.out);have l1:=D9.out.line;have q0:=D9.out.t0;have q1:=D9.out.t1;have q2:=D9.out.t2)
    | (go_at_call 26;have q:=A9.out _ V9.out;(with_reducible refine q.mono ?_);clear q;rintro e v10 ⟨rfl,hb⟩;have V10:=Lib.hid (btr V9.out hb);clear hb;clear l1 q0 q1 q2;have D10:=Lib.hid (D.out.below V10.out);have l1:=D10.out.line;have q0:=D10.out.t0;have q1:=D10.out.t1;have q2:=D10.out.t2)
    | (go_at_call 10;have q:=A10.out _ V10.out;(with_reducible refine q.mono ?_);clear q;rintro e v11 ⟨rfl,hb⟩;have V11:=Lib.hid (btr V10.out hb);clear hb;clear l1 q0 q1 q2;have D11:=Lib.hid (D.out.below V11.out);have l1:=D11.out.line;have q0:=D11.out.t0;have q1:=D11.out.t1;have q2:=D11.out.t2))
  all_goals go_wp2
  all_goals go_ret
  all_goals exact ⟨rfl,btr BW.out V11.out⟩
end Go.Proofs.YtancajcelmhnkaaGreatDoor
