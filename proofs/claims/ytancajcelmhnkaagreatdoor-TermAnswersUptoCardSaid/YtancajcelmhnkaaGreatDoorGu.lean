/- The canonical rectangles of the squares that rows have. -/
import Derived.Test.YtancajcelmhnkaaGreatDoorGd
import Derived.Test.YtancajcelmhnkaaGreatDoorGe
set_option maxRecDepth 100000
set_option maxHeartbeats 8000000
namespace Go.Proofs.YtancajcelmhnkaaGreatDoor
open Go.RowKit Go.Sort Go.Shelf
set_option linter.unusedVariables false
set_option linter.unusedSimpArgs false
theorem infoBn:(Tryz.prog.info? 240).map (fun i=>(i.zero,i.size,i.bytes))=some (some (.agg #[.int .i64 0,.int .i64 0,.slice none 0 0]),3,40):=by kernel_rfl
theorem elBn:ElT Tryz.prog 238 240 3 40:=.mk' Tryz.underlying238 infoBn rfl (by decide) (by decide)
theorem oneC_bn (b:Bn):OneC (encBn b):=fun u hu=>by simp [encBn] at hu;rcases hu with rfl | rfl | rfl <;> rfl
def NewCan (w:World) (S:Int→Int→Prop) (e:Ending) (w':World):Prop:=∃ l:List Rc,IsCan S l∧l.length≤1000000000000∧NewRc w l e w'
def BnOk (w:World) (base:Nat) (b:Bn):Prop:=w.ownsRow base 243 2 (.slice b.a b.m b.c) b.m (spCells b.sp)∧b.sp.length≤1000000
theorem BnOk.keep {w w':World} {base:Nat} {b:Bn} (h:BnOk w base b) (hb:Below w.heap.size w w'):BnOk w' base b:=⟨own_keep h.1 hb,h.2⟩
theorem BnOk.base {w:World} {b0 b1:Nat} {b:Bn} (h:BnOk w b0 b) (hb:b1≤b0):BnOk w b1 b:=⟨own_base h.1 hb,h.2⟩
theorem BnOk.len {w:World} {base:Nat} {b:Bn} (h:BnOk w base b):b.sp.length=b.m:=by have:=h.1.1;rw [cellsOf_length encSp_len] at this;omega
theorem own_far {w w':World} {base base' k k' n n':Nat} {t e:TypeId} {v u:Value} {xs ys:List Value} (h:w.ownsRow base t k v n xs) (ho:w.ownsRow base' e k' u n' ys) (hg:w.grownBy w' u.ownBlock) (hne:t ≠ e):w'.ownsRow base t k v n xs:=by
 refine h.kept hg ?_
 rcases h.2 with ⟨rfl,_⟩ | ⟨g,cap,cur,rfl,_,hh,_⟩
 ·exact .inl rfl
 ·right
  rcases ho.2 with ⟨rfl,_⟩ | ⟨g',cap',cur',rfl,_,hh',_⟩
  ·simp [Value.ownBlock]
  ·intro c
   have:g=g':=by simpa [Value.ownBlock] using c
   subst this
   rw [hh] at hh'
   cases hh';exact hne rfl
structure BuildI (w:World) (c:List Int) (R:Int→Int→Prop) (v i:Value) (wr:World):Prop where
 ex:∃ (k:Nat) (bs:List Bn),1≤k∧i=.int .i64 k∧(k≤c.length∨k=1)∧BuI c R k (bds bs)∧bs.length<k∧wr.ownsRow w.heap.size 240 3 v bs.length (cellsOf encBn bs)∧∀ b ∈ bs,BnOk wr w.heap.size b
 below:Below w.heap.size w wr
structure CutB (w0 wr:World) (lo hi:Int) (S:Int→Prop) (v:Value) (wx:World):Prop where
 ex:∃ (gb:Nat) (b:Bn),v=.pointer (some ⟨gb,0,none⟩)∧b.lo=lo∧b.hi=hi∧Blk wx gb 240 #[.int .i64 b.lo,.int .i64 b.hi,.slice b.a b.m b.c]∧BnOk wx wr.heap.size b∧Gap b.sp∧(∀ x,inSp b.sp x↔S x)
 below:Below wr.heap.size wr wx
theorem flat_bound {bs:List Bn} (h:∀ b ∈ bs,b.sp.length≤1000000):(flat (bds bs)).length≤bs.length * 1000000:=by
 induction bs with
 | nil=>simp [bds,flat]
 | cons b bs ih =>
  have h1:=h b (by simp)
  have h2:=ih fun b hb=>h b (by simp [hb])
  have e:(flat (bds (b :: bs))).length=b.sp.length+(flat (bds bs)).length:=by simp [bds,flat,Bn.bd]
  rw [e,List.length_cons,Nat.add_mul];omega
theorem bnCells_set (o:List Bn) (u:Bn) (r:Int):(cellsOf encBn (o++[u])).set (o.length * 3+1) (.int .i64 r)=cellsOf encBn (o++[{ u with hi:=r }]):=by
 rw [cellsOf_snoc,cellsOf_snoc,List.set_append_right _ _ (by rw [cellsOf_length encBn_len];omega),cellsOf_length encBn_len,show o.length * 3+1 - o.length * 3=1 by omega]
 rfl
theorem bnCells_last (o:List Bn) (u:Bn) (j:Nat) (hj:j<3):(cellsOf encBn (o++[u]))[o.length * 3+j]? = (encBn u)[j]?:=by
 rw [cellsOf_snoc,List.getElem?_append_right (by rw [cellsOf_length encBn_len];omega),cellsOf_length encBn_len,show o.length * 3+j - o.length * 3=j by omega]
theorem bds_snoc (o:List Bn) (u:Bn):bds (o++[u])=bds o++[u.bd]:=by simp [bds]
theorem build_any (g:Nat) (lb:Array Value) (eg:∀ args w,(callFunc g args).run Tryz.prog w=.ok (.enter g args) w) (R S:Int→Int→Prop) (c:List Int) (a:Option Addr) (n cap:Nat) (w:World) (hV:Vw w a (intCells c)) (hn:c.length=n) (hc:n≤1000000) (hasc:Asc c)
  (hrow:∀ (W:World) (y:Int),Below w.heap.size w W→Calls Tryz.prog g (#[.int .i64 y]++lb) W (NewRow W (R y)))
  (hin:∀ k,k+1<c.length→∀ x y,c.getD k 0≤y→y<c.getD (k+1) 0→(S x y↔R (c.getD k 0) x))
  (hout:∀ x y,S x y→∃ k,k+1<c.length∧c.getD k 0≤y∧y<c.getD (k+1) 0) :
  Calls Tryz.prog 181 #[.slice a n cap,.func (.func g) #[] lb] w (NewCan w S):=by
 have HV:=hid hV;have HN:=hid hn;have HASC:=hid hasc;have HIN:=hid hin;have HOUT:=hid hout
 have HROW:=hid hrow
 clear hV hn hasc hin hout hrow
 go_enter Tryz.func181,Tryz.ntmps181
 go_wp2
 go_loopw [5,6] (fun v i wr=>BuildI w c R v i wr) (fun _ i _=>n - (intOf i).toNat)
 case atStart=>exact ⟨⟨1,[],Nat.le_refl _,rfl,.inr rfl,BuI.start c R,by simp,World.ownsRow_nil _ _ _ _,fun b hb=>by cases hb⟩,Below.refl _ _⟩
 case round =>
  obtain ⟨⟨k,bs,hk1,rfl,hkc,hbu,hbl,hown,hok⟩,hb⟩:=hrel
  obtain ⟨i,rfl⟩:∃ i,k=i+1:=⟨k - 1,by omega⟩
  have BU:=hid hbu;have OK:=hid hok;have OWN:=hid hown;have HB:=hid hb
  obtain ⟨a0,cap0,rfl,-,-,-⟩:=own_form hown
  clear hbu hok hown hb
  obtain ⟨m,hm⟩:∃ m,bs.length=m:=⟨_,rfl⟩
  rw [hm] at hbl OWN ⊢
  have HM:=hid hm
  clear hm
  by_cases hlt:i+1<n
  ·have hlt':(i:Int)+1<(n:Int):=by omega
   have i0:(0:Int)≤(i:Int):=by omega
   have i1:(i:Int)<(n:Int):=by omega
   obtain ⟨b,off,rfl,hbb,c0⟩:=(HV.out.below HB.out).int i (by have:=HN.out;omega)
   obtain ⟨b',off',e,-,c1⟩:=(HV.out.below HB.out).int (i+1) (by have:=HN.out;omega)
   cases e
   obtain ⟨lo,hlo⟩:∃ lo,c[i]'(by have:=HN.out;omega)=lo:=⟨_,rfl⟩
   obtain ⟨hi,hhi⟩:∃ hi,c[i+1]'(by have:=HN.out;omega)=hi:=⟨_,rfl⟩
   rw [hlo] at c0
   rw [hhi] at c1
   have elo:c.getD i 0=lo:=by rw [← hlo];simp [List.getD_eq_getElem?_getD,List.getElem?_eq_getElem (show i<c.length by have:=HN.out;omega)]
   have ehi:c.getD (i+1) 0=hi:=by rw [← hhi];simp [List.getD_eq_getElem?_getD,List.getElem?_eq_getElem (show i+1<c.length by have:=HN.out;omega)]
   have ELO:=hid elo;have EHI:=hid ehi
   clear hlo hhi elo ehi
   have s1:IntKind.i64.wrap (i:Int)=(i:Int):=IntWalk.i64_in _ (by omega)
   have s2:(0:Int)≤(i:Int)+1:=by omega
   have s3:((i:Int)+1).toNat=i+1:=by omega
   go_upto_region 5 with fail
   go_cut [7] (fun v wx=>CutB w wr lo hi (R lo) v wx)
   case first =>
    go_region_held3 (fun w'=>w'.cell? ⟨b,off+i,none⟩=some (.int .i64 lo)∧w'.cell? ⟨b,off+(i+1),none⟩=some (.int .i64 hi)) (simp [go_sem, *])
     (first
     | (go_at_fn g;refine (HROW.out _ _ (btr HB.out Bw.out)).mono ?_;rintro e w2 ⟨s,hgap,hsp,hsl,v2,rfl,hown2,hb2⟩;obtain ⟨a2,cap2,rfl,-,-,-⟩:=own_form hown2;have d0:=bc1 (b:=b) (o:=off+i) (v:=.int .i64 lo) hb2 (by simp [go_sem, *]);have d1:=bc1 (b:=b) (o:=off+(i+1)) (v:=.int .i64 hi) hb2 (by simp [go_sem, *]);have yb:b<w2.heap.size:=World.block_lt_of_cell? w2 _ d0;have zz:=hb2.size;(try simp at zz);(try (have BX:Blk w2 wr.heap.size 240 #[.int .i64 0,.int .i64 0,.slice none 0 0]:=Blk.below (by first | exact Blk.fresh rfl | exact (Blk.fresh rfl).drew) hb2;have x0:=BX.cell 0;have x1:=BX.cell 1;have x2:=BX.cell 2;have f0:=BX.free 0;have f1:=BX.free 1;have f2:=BX.free 2;(try simp at x0 x1 x2)))))
    all_goals (go_wp2_with fail)
    all_goals go_meet
    all_goals
     (case rel =>
      first
      | exact ⟨⟨w2.heap.size,⟨lo,hi,a2,s.length,cap2,s⟩,rfl,rfl,rfl,Blk.fresh rfl,⟨own_base (own_keep hown2 Bw.out) (Nat.le_refl _),hsl⟩,hgap,hsp⟩,bal (btr (bdr (Below.refl _ _)) hb2) _⟩
      | exact ⟨⟨wr.heap.size,⟨lo,hi,a2,s.length,cap2,s⟩,rfl,rfl,rfl,Blk.put3 BX rfl,⟨own_base (ownsRow_setCell_below (ownsRow_setCell_below (ownsRow_setCell_below hown2 (by simp) _) (by simp) _) (by simp) _) (by simp),hsl⟩,hgap,hsp⟩,bst (bst (bst (btr (bdr (bal (Below.refl _ _) _)) hb2) _ _ _ (Nat.le_refl _)) _ _ _ (Nat.le_refl _)) _ _ _ (Nat.le_refl _)⟩)
   case rest =>
    obtain ⟨⟨gb,⟨nlo,nhi,na,nm,nc,ns⟩,rfl,elo,ehi,hbx,hbo,hgap,hsp⟩,hbw⟩:=hcut
    dsimp only at elo ehi hbx hgap hsp
    subst elo ehi
    have m0:wc.cell? ⟨gb,0,none⟩=some (.int .i64 nlo):=hbx.cell 0
    have m1:wc.cell? ⟨gb,1,none⟩=some (.int .i64 nhi):=hbx.cell 1
    have m2:wc.cell? ⟨gb,2,none⟩=some (.slice na nm nc):=hbx.cell 2
    have ym:=hbx.lt
    have OWN2:=hid (own_keep OWN.out hbw)
    have OK2:RowKit.Hid (∀ b ∈ bs,BnOk wc w.heap.size b):=fun b hb=>(OK.out b hb).keep hbw
    have NB:=hid (hbo.base HB.out.size)
    have HB2:=hid (btr HB.out hbw)
    have GAP:=hid hgap;have HSP:=hid hsp
    have hnm:nm≤1000000:=by have h1:=NB.out.len;have h2:=NB.out.2;dsimp only at h1 h2;omega
    have hlen:i+1<c.length:=by have:=HN.out;omega
    clear hbx hbo hbw hgap hsp OWN OK HB c0 c1
    rcases List.eq_nil_or_concat bs with rfl | ⟨o,u,rfl⟩
    ·obtain rfl:0=m:=by have:=HM.out;simpa using this
     go_wp2
     go_quiet (fail)
     go_wp2_with (at_builtin;refine app_list elBn rfl _ _ rfl w.heap.size _ 0 [] rfl (own_keep OWN2.out Bw.out) _ 1 _ (encBn ⟨nlo,nhi,na,nm,nc,ns⟩) rfl (by first | exact vw_blk (Blk.fresh (by simp)) | exact vw_blk (Blk.fresh (by simp)).drew) (by simp) rfl (oneC_bn _) (by omega) (by have:=HB2.out.size;simp;omega) ?_;intro v2 w2 hown2 hg2 _;have HB3:=hid (below_app (own_keep OWN2.out Bw.out) (by (repeat (with_reducible first | exact HB2.out | exact Below.refl _ _ | refine bdr ?_ | refine bdn ?_ _ | refine bal ?_ _))) hg2);have NB3:RowKit.Hid (BnOk w2 w.heap.size ⟨nlo,nhi,na,nm,nc,ns⟩):=⟨own_far (own_keep NB.out.1 Bw.out) (own_keep OWN2.out Bw.out) hg2 (by decide),NB.out.2⟩;obtain ⟨a2,cap2,rfl,-,-,-⟩:=own_form hown2)
     go_roundw
     case rel =>
      have hbu:=BU.out.add (s:=ns) HASC.out (by omega) hlen GAP.out (by rw [Nat.add_sub_cancel,ELO.out];exact HSP.out) (by simp [bds])
      rw [Nat.add_sub_cancel,ELO.out,EHI.out] at hbu
      exact ⟨⟨i+1+1,[⟨nlo,nhi,na,nm,nc,ns⟩],by omega,by go_num,by omega,hbu,by simp,hown2,fun b hb=>by rw [List.mem_singleton.1 hb];exact NB3.out⟩,HB3.out⟩
     case measure=>simp [intOf];omega
    ·simp only [List.concat_eq_append] at BU OK2 OWN2 HM
     obtain ⟨p,hp⟩:∃ p,o.length=p:=⟨_,rfl⟩
     obtain rfl:p+1=m:=by have:=HM.out;rw [List.length_append,hp] at this;simpa using this
     obtain ⟨g2,cap2,e2,hgc,hgm,hg0,hgl⟩:=own_some OWN2.out
     cases e2
     have hu1:wc.cell? ⟨g2,p * 3+1,none⟩=some (.int .i64 u.hi):=by
      rw [OWN2.out.cellAt _ (by omega),← hp,bnCells_last o u 1 (by omega)];rfl
     have hu2:wc.cell? ⟨g2,p * 3+2,none⟩=some (.slice u.a u.m u.c):=by
      rw [OWN2.out.cellAt _ (by omega),← hp,bnCells_last o u 2 (by omega)];rfl
     have hf1:wc.frozen? ⟨g2,p * 3+1,none⟩=false:=OWN2.out.frozenAt _
     have huhi:u.hi=nlo:=by
      have:=BU.out.2.2 u.bd (by rw [bds_snoc];simp)
      rw [Nat.add_sub_cancel,ELO.out] at this
      exact this
     rw [huhi] at hu1
     have HP:=hid hp;have HUH:=hid huhi
     clear hp huhi
     obtain ⟨UO1,UO2⟩:=OK2.out u (by simp)
     have hum:u.m≤1000000:=by have h1:=(OK2.out u (by simp)).len;omega
     have EQ:RowKit.Hid (∀ q,Calls Tryz.prog 200 #[.slice u.a u.m u.c,.slice na nm nc] (wc.drewN q) fun e w'=>e=.returned (.bool (decide (u.sp=ns)))∧∃ k,w'=(wc.drewN q).drewN k):=fun q =>
      eqSp u.a u.m u.c u.sp na nm nc ns _ (vw_of_own UO1) (OK2.out u (by simp)).len (by omega) (vw_of_own NB.out.1) NB.out.len (by omega)
     obtain ⟨ulo,uhi,ua,um,uc,us⟩:=u
     dsimp only at hu1 hu2 UO1 UO2 hum EQ
     clear UO1 UO2
     unfold maxLen at hgm
     have i3:(0:Int)<(p:Int)+1:=by omega
     have i4:(0:Int)≤(p:Int):=by omega
     have i5:IntKind.i64.wrap (p:Int)=(p:Int):=IntWalk.i64_in _ (by omega)
     by_cases hes:us=ns
     ·rw [decide_eq_true hes] at EQ
      have HES:=hid hes
      clear hes
      go_wp2
      go_quiet ((go_at_call 200;exact Calls.quiet_of (EQ.out _)))
      go_wp2
      go_roundw
      case rel =>
       have hK:=own_keep OWN2.out (show Below wc.heap.size wc (wc.drewN nq) from Bw.out)
       have hst:=hK.stored (p * 3+1) (.int .i64 nhi)
       have es:=bnCells_set o ⟨ulo,uhi,ua,um,uc,us⟩ nhi
       rw [HP.out] at es
       rw [es] at hst
       have hbu:=BU.out
       rw [bds_snoc] at hbu
       have hbj:=hbu.join HASC.out (by omega) hlen (by rw [Nat.add_sub_cancel,ELO.out];show ∀ x,inSp us x↔_;rw [HES.out];exact HSP.out)
       rw [EHI.out] at hbj
       refine ⟨⟨i+1+1,o++[⟨ulo,nhi,ua,um,uc,us⟩],by omega,by go_num,by omega,by rw [bds_snoc];exact hbj,by have:=HP.out;simp;omega,?_,fun b hb=>?_⟩,below_put hK (by (repeat (with_reducible first | exact HB2.out | exact Below.refl _ _ | refine bdr ?_ | refine bdn ?_ _ | refine bal ?_ _))) _ _⟩
       ·rw [show (o++[(⟨ulo,nhi,ua,um,uc,us⟩:Bn)]).length=p+1 by have:=HP.out;simp;omega]
        exact hst.1
       ·have hfar:∀ b ∈ o++[(⟨ulo,uhi,ua,um,uc,us⟩:Bn)],BnOk ((wc.drewN nq).setCell ⟨g2,p * 3+1,none⟩ (.int .i64 nhi)) w.heap.size b:=fun b hb=>⟨own_far (own_keep (OK2.out b hb).1 Bw.out) hK hst.2 (by decide),(OK2.out b hb).2⟩
        rcases List.mem_append.1 hb with hb | hb
        ·exact hfar b (List.mem_append_left _ hb)
        ·rw [List.mem_singleton.1 hb]
         exact hfar ⟨ulo,uhi,ua,um,uc,us⟩ (by simp)
      case measure=>simp [intOf];omega
     ·rw [decide_eq_false hes] at EQ
      have HES:=hid hes
      clear hes
      go_wp2
      go_quiet ((go_at_call 200;exact Calls.quiet_of (EQ.out _)))
      go_wp2_with (at_builtin;refine app_list elBn rfl _ _ rfl w.heap.size _ (p+1) _ rfl (own_keep OWN2.out Bw.out) _ 1 _ (encBn ⟨nlo,nhi,na,nm,nc,ns⟩) rfl (by first | exact vw_blk (Blk.fresh (by simp)) | exact vw_blk (Blk.fresh (by simp)).drew) (by simp) rfl (oneC_bn _) (by omega) (by have:=HB2.out.size;simp;omega) ?_;intro v2 w2 hown2 hg2 _;have HB3:=hid (below_app (own_keep OWN2.out Bw.out) (by (repeat (with_reducible first | exact HB2.out | exact Below.refl _ _ | refine bdr ?_ | refine bdn ?_ _ | refine bal ?_ _))) hg2);have NB3:RowKit.Hid (BnOk w2 w.heap.size ⟨nlo,nhi,na,nm,nc,ns⟩):=⟨own_far (own_keep NB.out.1 Bw.out) (own_keep OWN2.out Bw.out) hg2 (by decide),NB.out.2⟩;have OK3:RowKit.Hid (∀ b ∈ o++[⟨ulo,uhi,ua,um,uc,us⟩],BnOk w2 w.heap.size b):=fun b hb=>⟨own_far (own_keep (OK2.out b hb).1 Bw.out) (own_keep OWN2.out Bw.out) hg2 (by decide),(OK2.out b hb).2⟩;obtain ⟨a2,cap2,rfl,-,-,-⟩:=own_form hown2)
      go_roundw
      case rel =>
       have hbu:=BU.out.add (s:=ns) HASC.out (by omega) hlen GAP.out (by rw [Nat.add_sub_cancel,ELO.out];exact HSP.out) (by rw [bds_snoc];intro b hb;simp at hb;rw [← hb];exact HES.out)
       rw [Nat.add_sub_cancel,ELO.out,EHI.out] at hbu
       refine ⟨⟨i+1+1,o++[⟨ulo,uhi,ua,um,uc,us⟩]++[⟨nlo,nhi,na,nm,nc,ns⟩],by omega,by go_num,by omega,by rw [bds_snoc (o++_)];exact hbu,by have:=HP.out;simp;omega,?_,fun b hb=>?_⟩,HB3.out⟩
       ·rw [cellsOf_snoc,show (o++[(⟨ulo,uhi,ua,um,uc,us⟩:Bn)]++[(⟨nlo,nhi,na,nm,nc,ns⟩:Bn)]).length=p+1+1 by have:=HP.out;simp;omega]
        exact hown2
       ·rcases List.mem_append.1 hb with hb | hb
        ·exact OK3.out b hb
        ·rw [List.mem_singleton.1 hb];exact NB3.out
      case measure=>simp [intOf];omega
  ·have hge:¬ (i:Int)+1<(n:Int):=by omega
   have hm6:m≤1000000:=by have:=HN.out;omega
   have hfl:(flat (bds bs)).length≤1000000000000:=by
    have h1:=flat_bound (bs:=bs) fun b hb=>(OK.out b hb).2
    rw [HM.out] at h1
    have h2:m * 1000000≤1000000 * 1000000:=Nat.mul_le_mul_right _ hm6
    omega
   go_wp2_with (go_at_call 201;refine (rects_any _ _ _ bs _ (vw_of_own OWN.out) HM.out (by omega) (fun b hb=>⟨vw_of_own (OK.out b hb).1,(OK.out b hb).len⟩) hfl).mono ?_;rintro e w2 ⟨v2,rfl,hown2,hb2⟩)
   go_ret
   refine ⟨_,?_,hfl,v2,rfl,own_base hown2 HB.out.size,btr HB.out hb2⟩
   by_cases h1:1<n
   ·have e:i+1=c.length:=by have:=HN.out;omega
    have hbu:=BU.out
    rw [e] at hbu
    exact hbu.done HIN.out HOUT.out
   ·obtain rfl:i=0:=by have:=HN.out;omega
    have:bs=[]:=List.eq_nil_of_length_eq_zero (by have:=HM.out;omega)
    subst this
    exact ⟨[],trivial,rfl,fun x y=>⟨fun h=>absurd h (inBd_nil _ _),fun h=>by obtain ⟨k,hk,_⟩:=HOUT.out x y h;have:=HN.out;omega⟩⟩
theorem asc_of {c:List Int} (h:c.Pairwise (· < ·)):Asc c:=fun i j hij hj=>by
 have:=List.pairwise_iff_getElem.1 h i j (by omega) hj hij
 simpa [List.getD_eq_getElem?_getD,List.getElem?_eq_getElem hj,List.getElem?_eq_getElem (show i<c.length by omega)] using this
theorem cutting_allY {ls:List (Sc Rc)} {s:Sc Rc} (h:s ∈ ls):Cutting (ascOf (allY ls)) s.l:=fun q hq=>by
 rw [ascOf_mem,ascOf_mem]
 unfold allY edgesY
 exact ⟨List.mem_flatMap.2 ⟨s,h,List.mem_flatMap.2 ⟨q,hq,by simp⟩⟩,List.mem_flatMap.2 ⟨s,h,List.mem_flatMap.2 ⟨q,hq,by simp⟩⟩⟩
theorem rowcl_any (b:Nat) (a:Option Addr) (n cap:Nat) (l:List Rc) (y:Int) (W:World) (hc:W.cell? ⟨b,0,none⟩=some (.slice a n cap)) (hV:Vw W a (rcCells l)) (hn:l.length=n) (hl:n≤100000) (hp:∀ q ∈ l,q.1<q.2.2.1) :
  Calls Tryz.prog 183 (#[.int .i64 y]++#[.pointer (some ⟨b,0,none⟩)]) W (NewRow W fun x=>inRow l y x):=by
 have HV:=hid hV;have HN:=hid hn;have HP:=hid hp
 clear hV hn hp
 show Calls Tryz.prog 183 #[.int .i64 y,.pointer (some ⟨b,0,none⟩)] W _
 go_enter Tryz.func183,Tryz.ntmps183
 go_wp2_with (go_at_call 184;refine (row_any _ _ _ l _ _ HV.out HN.out hl HP.out).mono ?_;rintro e w' ⟨s,h1,h2,h3,v,rfl,h4,h5⟩)
 go_ret
 exact ⟨s,h1,h2,h3,v,rfl,h4,h5⟩
theorem canonical_any (a:Option Addr) (n cap:Nat) (l:List Rc) (w:World) (hV:Vw w a (rcCells l)) (hn:l.length=n) (hl:n≤100000) (hp:∀ q ∈ l,q.1<q.2.2.1) :
  Calls Tryz.prog 144 #[.slice a n cap] w (NewCan w (inRc l)):=by
 have HV:=hid hV;have HN:=hid hn;have HP:=hid hp
 have eg:∀ args w,(callFunc 183 args).run Tryz.prog w=.ok (.enter 183 args) w:=enters_of Tryz.func183 (by kernel_rfl) rfl
 have EG:=hid eg
 clear hV hn hp eg
 go_enter Tryz.func144,Tryz.ntmps144
 go_wp2_with (first
  | (go_at_call 182;go_loud (refine (cuts_any _ _ _ [⟨a,n,cap,l⟩] _ (by first | exact vw_blk (Blk.fresh (by simp)) | exact vw_blk (Blk.fresh (by simp)).drew) rfl (by simp) (fun s hs=>by rw [List.mem_singleton.1 hs];exact ⟨HV.out.below Bw.out,HN.out,hl⟩)).mono ?_);rintro e w1 ⟨v1,rfl,hown1,hb1⟩;obtain ⟨a1,cap1,rfl,-,-,-⟩:=own_form hown1;have OWN1:=hid hown1;have HB1:=hid hb1;have BX:=hid (Blk.below (by first | exact (Blk.fresh rfl).alloc _ | exact Blk.fresh rfl) hb1:Blk w1 w.heap.size 36 #[.slice a n cap]);clear hown1 hb1)
  | (go_at_call 181;refine (build_any 183 #[.pointer (some ⟨w.heap.size,0,none⟩)] EG.out (fun y x=>inRow l y x) (inRc l) (ascOf (allY [⟨a,n,cap,l⟩])) _ _ _ _ (vw_of_own OWN1.out) rfl (by have:=ascOf_len (allY [⟨a,n,cap,l⟩]);have h2:=edgesY_len l;have h3:=HN.out;simp [allY] at this ⊢;omega) (asc_of (ascOf_asc _)) (fun W y hW=>rowcl_any _ a n cap l y W ((BX.out.below hW).cell 0) (HV.out.below (btr (btr Bw.out HB1.out) hW)) HN.out hl HP.out) (fun k hk x y h1 h2=>row_const (asc_of (ascOf_asc _)) (cutting_allY (s:=⟨a,n,cap,l⟩) (by simp)) hk h1 h2) (fun x y h=>row_out (asc_of (ascOf_asc _)) (cutting_allY (s:=⟨a,n,cap,l⟩) (by simp)) h)).mono ?_;rintro e w2 ⟨l',h1,h2,v2,rfl,h3,h4⟩))
 go_ret
 refine ⟨l',h1,h2,v2,rfl,own_base h3 ?_,btr (btr Bw.out HB1.out) h4⟩
 have:=HB1.out.size
 simp at this
 omega
def Vld (l:List Rc):Prop:=l.length≤120∧(∀ q ∈ l,Prp q)∧IsCan (inRc l) l
def Says (w:World) (P:Prop) (e:Ending) (w':World):Prop:=∃ b:Bool,e=.returned (.bool b)∧(b=true↔P)∧Below w.heap.size w w'
theorem cfRect_vw (a:Option Addr) (n cap:Nat) (l:List Rc) (w:World) (hV:Vw w a (rcCells l)) (hn:l.length=n) (hc:n≤9223372036854775807) :
  Calls Tryz.prog 140 #[.slice a n cap,.func (.func 141) #[] #[]] w fun e w'=>e=.returned (.bool (l.any fun q=>!decide (Prp q)))∧Below w.heap.size w w':=by
 by_cases h:0<n
 ·exact cfRect_any a n cap l w (rcs_of_vw hV) hn hc h
 ·obtain rfl:n=0:=by omega
  rw [List.length_eq_zero_iff.1 hn]
  exact (cfRect_none a cap _ w).mono fun e w' ⟨he,hw⟩=>by subst hw;exact ⟨he,Below.refl _ _⟩
theorem valid_any (a:Option Addr) (n cap:Nat) (l:List Rc) (w:World) (hV:Vw w a (rcCells l)) (hn:l.length=n) (hc:n≤9223372036854775807) :
  Calls Tryz.prog 96 #[.agg #[.slice a n cap]] w (Says w (Vld l)):=by
 have HV:=hid hV;have HN:=hid hn
 clear hV hn
 by_cases h120:n≤120
 ·have h1:¬ (120:Int)<(n:Int):=by omega
  have d1:decide ((120:Int)<(n:Int))=false:=by simpa using h1
  obtain ⟨f,hf⟩:∃ f,(l.any fun q=>!decide (Prp q))=f:=⟨_,rfl⟩
  have HF:=hid hf
  clear hf
  cases f with
  | true =>
   go_enter Tryz.func96,Tryz.ntmps96
   go_wp2_with (go_at_call 140;refine (cfRect_vw _ _ _ l _ (HV.out.below Bw.out) HN.out hc).mono ?_;rw [HF.out];rintro e w1 ⟨rfl,hb1⟩)
   go_ret
   refine ⟨false,rfl,⟨(fun h=>by cases h),fun h=>?_⟩,btr Bw.out hb1⟩
   have:=HF.out
   rw [List.any_eq_true] at this
   obtain ⟨q,hq,h3⟩:=this
   simp [h.2.1 q hq] at h3
  | false =>
   have hprp:∀ q ∈ l,Prp q:=fun q hq=>by
    have:=HF.out
    rw [List.any_eq_false] at this
    simpa using this q hq
   have hlt:∀ q ∈ l,q.1<q.2.2.1:=fun q hq=>(hprp q hq).2.1
   have HP:=hid hprp;have HLT:=hid hlt
   clear hprp hlt
   go_enter Tryz.func96,Tryz.ntmps96
   go_wp2_with (go_at_call 140;refine (cfRect_vw _ _ _ l _ (HV.out.below Bw.out) HN.out hc).mono ?_;rw [HF.out];rintro e w1 ⟨rfl,hb1⟩;have BX:Blk w1 w.heap.size 38 #[.slice a n cap]:=Blk.below (Blk.fresh rfl) hb1;have x0:w1.cell? ⟨w.heap.size,0,none⟩=some (.slice a n cap):=BX.cell 0;have y0:=BX.lt;have HBX:=hid BX;have HB1:=hid hb1;clear BX hb1)
   go_region_held3 (fun w'=>w'.cell? ⟨w.heap.size,0,none⟩=some (.slice a n cap)) (simp [go_sem, *])
    (first
    | (go_at_call 144;refine (canonical_any _ _ _ l _ (HV.out.below (by (repeat (with_reducible first | exact btr (bal (Below.refl _ _) _) HB1.out | exact Below.refl _ _ | refine bdr ?_ | refine bdn ?_ _ | refine bal ?_ _)))) HN.out (by omega) HLT.out).mono ?_;rintro e w2 ⟨l',hcan,hl',v2,rfl,hown2,hb2⟩;obtain ⟨a2,cap2,rfl,hc2,hm2,-⟩:=own_form hown2;have BX2:Blk w2 w.heap.size 38 #[.slice a n cap]:=HBX.out.below (by first | exact hb2 | exact btr (bdr (Below.refl _ _)) hb2);have x2:w2.cell? ⟨w.heap.size,0,none⟩=some (.slice a n cap):=BX2.cell 0;have y2:=BX2.lt)
    | (go_at_call 143;refine (eqRc _ _ _ l' _ _ _ l _ (vw_of_own hown2) rfl (by unfold maxLen at hm2;omega) (HV.out.below (btr (by (repeat (with_reducible first | exact btr (bal (Below.refl _ _) _) HB1.out | exact Below.refl _ _ | refine bdr ?_ | refine bdn ?_ _ | refine bal ?_ _))) hb2)) HN.out hc).mono ?_;rintro e w3 ⟨rfl,q3,rfl⟩))
   all_goals
    go_wp2
    go_ret
    refine ⟨_,rfl,?_,(by (repeat (with_reducible first | exact btr (bdr (btr (bal (Below.refl _ _) _) HB1.out)) hb2 | exact Below.refl _ _ | refine bdr ?_ | refine bdn ?_ _ | refine bal ?_ _)))⟩
    rw [decide_eq_true_eq]
    exact ⟨fun e=>⟨by rw [HN.out];exact h120,HP.out,by rw [← e];exact (IsCan.congr hcan fun x y=>by rw [e])⟩,fun h=>hcan.uniq h.2.2⟩
 ·have h1:(120:Int)<(n:Int):=by omega
  go_enter Tryz.func96,Tryz.ntmps96
  go_wp2
  go_ret
  exact ⟨false,rfl,⟨(fun h=>by cases h),fun h=>absurd h.1 (by rw [HN.out];exact h120)⟩,Bw.out⟩
end Go.Proofs.YtancajcelmhnkaaGreatDoor
