/- history.years: the records of each year,in a map. -/
import Derived.Test.YtancajcelmhnkaaGreatDoorHis
set_option maxRecDepth 100000
set_option maxHeartbeats 8000000
namespace Go.Proofs.YtancajcelmhnkaaGreatDoor
open Go.RowKit Go.Sort Go.Shelf
set_option linter.unusedVariables false
set_option linter.unusedSimpArgs false
def hdrE:Value→Option (DataW Value × List MemPlace)
 | .slice a n c=>some (.held (.slice a n c),[])
 | _=>none
def nilV:Value:=.slice none 0 0
theorem hdrE_inv {v:Value} {y:DataW Value × List MemPlace} (h:hdrE v=some y):∃ q:Option Addr × Nat × Nat,v=.slice q.1 q.2.1 q.2.2:=by
 cases v <;> simp [hdrE] at h
 rename_i a n c
 exact ⟨(a,n,c),rfl⟩
theorem kInt:Maps.Keyed Tryz.prog 3:=Maps.int_keyed Tryz.underlying3
theorem zeroRds (w:World):(zeroValue 32).run Tryz.prog w=.ok nilV w:=by kernel_rfl
theorem look_hdr {W:World} {b n:Nat} {D:DataW Value} {y:Int} {v:Value} (h:W.ownsMap Tryz.prog 3 hdrE b n D) (hy:(Lit.int .i64 y).wf=true) (hv:D.atKey (.int .i64 y) (.held nilV)=.held v) :
  (Instr.lookup 184 (.map (some b)) (.int .i64 y) false).run Tryz.prog W=.ok v W:=by
 obtain ⟨u,ps,h1,h2⟩:=h.lookup kInt Tryz.underlying184 (zeroRds W) (zd:=.held nilV) (zp:=[]) rfl (Maps.keyOf_int_mk Tryz.underlying3 hy)
 rw [hv] at h2
 obtain ⟨q,rfl⟩:=hdrE_inv h2
 simp only [hdrE,Option.some.injEq,Prod.mk.injEq,DataW.held.injEq] at h2
 rw [h1,h2.1]
section
variable {P:Program} {ops:Array Oper} {o:Oper} {a:Act} {w:World} {K:Act→World→Prop} {Q:Exit→Act→World→Prop} {E:Prop}
end
def ofYear (l:List RcdM) (y:Int):List RcdM:=l.filter fun r=>decide (r.year=y)
structure YrM (base b n:Nat) (L:List RcdM) (D:DataW Value) (V:Int→Value) (wr:World):Prop where
 map:wr.ownsMap Tryz.prog 3 hdrE b n D
 isMap:Maps.IsMap D
 at_:∀ y,D.atKey (.int .i64 y) (.held nilV)=.held (V y)
 row:∀ y,wr.ownsRow base 47 3 (V y) (ofYear L y).length (cellsOf encRcd (ofYear L y))
 apart:∀ y z,y ≠ z→(V y).ownBlock=none∨(V y).ownBlock ≠ (V z).ownBlock
theorem below_grown {w w':World} (h:Below w.heap.size w w') (row:Option Nat):w.grownBy w' row:=⟨h.os,h.tape,h.output,h.size,fun i hi _=>h.block i hi⟩
theorem YrM.below {base b n:Nat} {L:List RcdM} {D:DataW Value} {V:Int→Value} {w w':World} (h:YrM base b n L D V w) (hb:Below w.heap.size w w'):YrM base b n L D V w' :=
 ⟨h.map.kept (below_grown hb none) (by simp),h.isMap,h.at_,fun y=>own_keep (h.row y) hb,h.apart⟩
theorem YrM.start {base b:Nat} {w:World} (h:w.ownsMap Tryz.prog 3 hdrE b 0 (.map [])):YrM base b 0 [] (.map []) (fun _=>nilV) w :=
 ⟨h,Maps.isMap_empty,fun y=>rfl,fun y=>World.ownsRow_nil _ _ _ _,fun y z _=>.inl rfl⟩
theorem YrM.more {base b n:Nat} {L:List RcdM} {D:DataW Value} {V:Int→Value} {w w1:World} (h:YrM base b n L D V w) (hbb:b<base) (hn:n<maxLen) (r:RcdM) (hw:(Lit.int .i64 r.year).wf=true) (v:Value)
  (hrow:w1.ownsRow base 47 3 v ((ofYear L r.year).length+1) (cellsOf encRcd (ofYear L r.year)++encRcd r)) (hg:w.grownBy w1 (V r.year).ownBlock) (hat:v.ownBlock=(V r.year).ownBlock∨v.ownBlock=some w.heap.size) :
  ∃ (w2:World) (D':DataW Value) (V':Int→Value),(Instr.mapUpdate 184 (.map (some b)) (.int .i64 r.year) v).run Tryz.prog w1=.ok () w2∧YrM base b (n+1) (L++[r]) D' V' w2∧w1.grownBy w2 (some b):=by
 have hbr:some b ≠ (V r.year).ownBlock:=fun e=>by have:=((h.row r.year).lt b e.symm).1;omega
 have hm1:=h.map.kept hg hbr
 obtain ⟨a0,c0,rfl,-,-,hfm⟩:=own_form hrow
 obtain ⟨w2,h1,h2,h3⟩:=hm1.update kInt Tryz.underlying184 hn (Maps.keyOf_int_mk Tryz.underlying3 hw) (val:=.slice a0 ((ofYear L r.year).length+1) c0) (d:=.held (.slice a0 ((ofYear L r.year).length+1) c0)) (ps:=[]) rfl
 refine ⟨w2,_,fun y=>if y=r.year then .slice a0 ((ofYear L r.year).length+1) c0 else V y,h1,⟨h2,h.isMap.put _ _,fun y=>?_,fun y=>?_,fun y z hyz=>?_⟩,h3⟩
 ·by_cases e:y=r.year
  ·subst e
   rw [if_pos rfl]
   exact Maps.atKey_put_same h.isMap (show WideAt.IsKeyLit (.int .i64 r.year) from trivial) _ _
  ·rw [if_neg e,Maps.atKey_put_other (fun c=>e (by cases c;rfl))]
   exact h.at_ y
 ·have hne:∀ {u:Value} {m:Nat} {xs:List Value},w1.ownsRow base 47 3 u m xs→u.ownBlock=none∨u.ownBlock ≠ some b:=fun {u m xs} ho=>by
   cases hu:u.ownBlock with
   | none=>exact .inl rfl
   | some g=>have:=(ho.lt g hu).1;exact .inr fun e=>by cases e;omega
  have hsn:ofYear (L++[r]) y=ofYear L y++(if r.year=y then [r] else []):=by
   have h1:[r].filter (fun r=>decide (r.year=y))=(if r.year=y then [r] else []):=by by_cases e:r.year=y <;> simp [e]
   unfold ofYear
   rw [List.filter_append,h1]
  by_cases e:y=r.year
  ·subst e
   rw [if_pos rfl,hsn,if_pos rfl,cellsOf_snoc,List.length_append]
   exact hrow.kept h3 (hne hrow)
  ·rw [if_neg e,hsn,if_neg (fun c=>e c.symm),List.append_nil]
   have h4:=(h.row y).kept hg (h.apart y r.year e)
   exact h4.kept h3 (hne h4)
 ·have hnew:∀ y,y ≠ r.year→(V y).ownBlock=none∨(V y).ownBlock ≠ (Value.slice a0 ((ofYear L r.year).length+1) c0).ownBlock:=fun y hy=>by
   rcases hat with hat | hat
   ·rw [hat];exact h.apart y r.year hy
   ·rw [hat]
    cases hv:(V y).ownBlock with
    | none=>exact .inl rfl
    | some g=>have:=((h.row y).lt g hv).2;exact .inr fun e=>by cases e;omega
  by_cases e1:y=r.year
  ·by_cases e2:z=r.year
   ·exact absurd (e1.trans e2.symm) hyz
   ·rw [if_pos e1,if_neg e2]
    rcases hnew z e2 with hz | hz
    ·cases hv:(Value.slice a0 ((ofYear L r.year).length+1) c0).ownBlock with
     | none=>exact .inl rfl
     | some g=>rw [hz];exact .inr (by simp)
    ·exact .inr fun e=>hz e.symm
  ·by_cases e2:z=r.year
   ·rw [if_neg e1,if_pos e2];exact hnew y e1
   ·rw [if_neg e1,if_neg e2];exact h.apart y z hyz
def YrP (w:World) (l:List RcdM) (e:Ending) (w':World):Prop:=∃ (n:Nat) (D:DataW Value) (V:Int→Value),e=.returned (.map (some w.heap.size))∧YrM (w.heap.size+1) w.heap.size n l D V w'∧Below w.heap.size w w'
theorem years_any (s:Sc RcdM) (w:World) (hR:Rws encRcd w s 200) (hy:∀ r ∈ s.l,0≤r.year∧r.year≤100) :
  Calls Tryz.prog 132 #[.slice s.a s.n s.c] w (YrP w s.l):=by
 obtain ⟨a,n,c,l⟩:=s
 dsimp only at hy ⊢
 have HR:=hid hR;have HY:=hid hy
 have hn:l.length=n:=hR.len
 have HN:=hid hn
 have hm:n≤200:=hR.few
 clear hR hy hn
 have hmk:=@run_makeMap Tryz.prog
 go_enter Tryz.func132,Tryz.ntmps132
 go_wp2
 go_loopw [9] (fun i wr=>∃ (k:Nat) (D:DataW Value) (V:Int→Value),k≤n∧i=.int .i64 k∧YrM (w.heap.size+1) w.heap.size k (l.take k) D V wr∧Below w.heap.size w wr) (fun i _=>n - (intOf i).toNat)
 case atStart=>exact ⟨0,_,_,Nat.zero_le _,rfl,by rw [List.take_zero];exact YrM.start (World.ownsMap_made _ _ _ _),Bw.out⟩
 case round =>
  obtain ⟨k,D,V,hk,rfl,hyr,hb⟩:=hrel
  have HM:=hid hyr;have HB:=hid hb
  clear hyr hb
  by_cases hlt:k<n
  ·have hke:k<l.length:=by rw [HN.out];exact hlt
   obtain ⟨b,off,rfl,hbl,hrg⟩:=HR.out.vw.range (k:=3) (fun x _=>encRcd_len x) (by omega) k hke
   have HRG:=hid (rangeAt_below hrg HB.out)
   have HYK:=hid (HY.out _ (List.getElem_mem hke))
   have HTK:RowKit.Hid (l.take (k+1)=l.take k++[l[k]]):=List.take_succ_eq_append_getElem hke
   have hlk:(ofYear (l.take k) l[k].year).length≤200:=by
    have h1:=List.length_filter_le (fun r=>decide (r.year=l[k].year)) (l.take k)
    rw [List.length_take] at h1
    unfold ofYear;omega
   clear hrg
   obtain ⟨r,hr⟩:∃ r,l[k]=r:=⟨_,rfl⟩
   rw [hr] at HRG HYK HTK hlk
   clear hr
   obtain ⟨y,cr,ra,rn,rc,rl⟩:=r
   dsimp only [encRcd] at HRG HYK hlk
   have HW:RowKit.Hid ((Lit.int .i64 y).wf=true):=by show _=true;have:=HYK.out;unfold Lit.wf;rw [Bool.and_eq_true,decide_eq_true_eq,decide_eq_true_eq];exact ⟨Int.le_trans (by decide) this.1,Int.le_trans this.2 (by decide)⟩
   obtain ⟨W1,hW1⟩:∃ W1,wr.alloc (.cells #[.int .i64 y,.int .i64 cr,.slice ra rn rc] 47)=W1:=⟨_,rfl⟩
   have BX:RowKit.Hid (Blk W1 wr.heap.size 47 #[.int .i64 y,.int .i64 cr,.slice ra rn rc]):=by show Blk _ _ _ _;rw [← hW1];exact Blk.new _ _ _
   have BW:RowKit.Hid (Below wr.heap.size wr W1):=by show Below _ _ _;rw [← hW1];exact Bw.out
   have x0:W1.cell? ⟨wr.heap.size,0,none⟩=some (.int .i64 y):=BX.out.cell 0
   have x1:W1.cell? ⟨wr.heap.size,1,none⟩=some (.int .i64 cr):=BX.out.cell 1
   have x2:W1.cell? ⟨wr.heap.size,2,none⟩=some (.slice ra rn rc):=BX.out.cell 2
   have M1:=hid (HM.out.below BW.out)
   have LK:=hid fun (W':World) (h:Below W1.heap.size W1 W')=>look_hdr (M1.out.below h).map HW.out (M1.out.at_ y)
   have OWN:=hid (M1.out.row y)
   obtain ⟨au,cu,hu,-,-,-⟩:=own_form OWN.out
   obtain ⟨m,hmm⟩:∃ m,(ofYear (l.take k) y).length=m:=⟨_,rfl⟩
   rw [hu] at LK
   have HU:=hid hu
   rw [hu,hmm] at OWN
   rw [hmm] at LK hlk
   have HMM:=hid hmm
   have MORE:=hid fun (W2 W3:World) (v:Value) (h2:Below W1.heap.size W1 W2) (hrow:W3.ownsRow (w.heap.size+1) 47 3 v (m+1) (cellsOf encRcd (ofYear (l.take k) y)++[.int .i64 y,.int .i64 cr,.slice ra rn rc])) (hg:W2.grownBy W3 (Value.slice au m cu).ownBlock) (hat:v.ownBlock=(Value.slice au m cu).ownBlock∨v.ownBlock=some W2.heap.size) =>
    (M1.out.below h2).more (by omega) (by unfold maxLen;omega) ⟨y,cr,ra,rn,rc,rl⟩ HW.out v (by rw [HMM.out];exact hrow) (by rw [HU.out,HMM.out];exact hg) (by rw [HU.out,HMM.out];exact hat)
   have hub:∀ g,(Value.slice au m cu).ownBlock=some g→w.heap.size+1≤g:=fun g e=>(OWN.out.lt g e).1
   have HUB:=hid hub
   have hwk:w.heap.size+1≤W1.heap.size:=by have h1:=M1.out.map.lt;omega
   have CK3:=hid fun (W2 W3:World) (hg:W2.grownBy W3 (Value.slice au m cu).ownBlock) (h2:Below W1.heap.size W1 W2) (i:Nat) (v:Value) (hi:(#[.int .i64 y,.int .i64 cr,.slice ra rn rc]:Array Value)[i]? = some v) =>
    (show W3.cell? ⟨wr.heap.size,i,none⟩=some v from by
     have hb:=BX.out.below h2
     have hne:(Value.slice au m cu).ownBlock ≠ some wr.heap.size:=fun e=>by
      have h5:=(HM.out.row y).lt wr.heap.size (by rw [hu,hmm];exact e)
      omega
     rw [World.cell?_of_block (w:=W2) (a:=⟨wr.heap.size,i,none⟩) (hg.block _ hb.lt fun e=>hne e.symm),hb.cell i];exact hi)
   have CK4:=hid fun (W3 W4:World) (hg:W3.grownBy W4 (some w.heap.size)) (i:Nat) (v:Value) (hi:W3.cell? ⟨wr.heap.size,i,none⟩=some v) =>
    (show W4.cell? ⟨wr.heap.size,i,none⟩=some v from by
     have hl:w.heap.size<wr.heap.size:=by have h1:=HM.out.map.lt;omega
     rw [World.cell?_of_block (w:=W3) (a:=⟨wr.heap.size,i,none⟩) (hg.block _ (World.block_lt_of_cell? W3 _ hi) fun e=>by have:=Option.some.inj e;simp at this;omega)];exact hi)
   have BG:=hid fun (W2 W3 W4:World) (h2:Below W1.heap.size W1 W2) (hg:W2.grownBy W3 (Value.slice au m cu).ownBlock) (hg4:W3.grownBy W4 (some w.heap.size)) =>
    (show Below w.heap.size w W4 from by
     have h5:Below w.heap.size w W2:=btr (btr HB.out BW.out) h2
     have h6:Below w.heap.size w W3:=h5.grown hg h5.size fun g e=>by have:=HUB.out g e;omega
     exact h6.grown hg4 h6.size fun g e=>by have:=Option.some.inj e;omega)
   have lk0:∀ q,(Instr.lookup 184 (.map (some w.heap.size)) (.int .i64 y) false).run Tryz.prog (W1.drewN q)=.ok (.slice au m cu) (W1.drewN q):=fun q=>LK.out _ Bw.out
   have lk1:(Instr.lookup 184 (.map (some w.heap.size)) (.int .i64 y) false).run Tryz.prog W1.drew=.ok (.slice au m cu) W1.drew:=LK.out _ Bw.out
   have lk2:∀ q,(Instr.lookup 184 (.map (some w.heap.size)) (.int .i64 y) false).run Tryz.prog ((W1.drewN q).alloc (.cells #[.int .i64 y,.int .i64 cr,.slice ra rn rc] 47))=.ok (.slice au m cu) ((W1.drewN q).alloc (.cells #[.int .i64 y,.int .i64 cr,.slice ra rn rc] 47)):=fun q=>LK.out _ Bw.out
   have lk3:(Instr.lookup 184 (.map (some w.heap.size)) (.int .i64 y) false).run Tryz.prog (W1.drew.alloc (.cells #[.int .i64 y,.int .i64 cr,.slice ra rn rc] 47))=.ok (.slice au m cu) (W1.drew.alloc (.cells #[.int .i64 y,.int .i64 cr,.slice ra rn rc] 47)):=LK.out _ Bw.out
   have lk4:(Instr.lookup 184 (.map (some w.heap.size)) (.int .i64 y) false).run Tryz.prog (W1.alloc (.cells #[.int .i64 y,.int .i64 cr,.slice ra rn rc] 47)).drew=.ok (.slice au m cu) (W1.alloc (.cells #[.int .i64 y,.int .i64 cr,.slice ra rn rc] 47)).drew:=LK.out _ Bw.out
   clear hu hmm HM hub
   go_wp2_with (first
    | (refine wpList_load_mid rfl 47 (.tmp 11) rfl b (off+k * 3) rfl [.int .i64 y,.int .i64 cr,.slice ra rn rc] _ HRG.out Tryz.underlying47 rfl rdInfo ?_)
    | (refine st_new rfl 47 (.tmp 5) (.tmp 12) rfl #[.int .i64 y,.int .i64 cr,.slice ra rn rc] _ _ rfl rfl rdInfo rfl (rd_one _ _ _ _ _) ?_;rw [hW1]))
   clear hW1
   go_region_held3 (fun w'=>w'.cell? ⟨wr.heap.size,0,none⟩=some (.int .i64 y)∧w'.cell? ⟨wr.heap.size,1,none⟩=some (.int .i64 cr)∧w'.cell? ⟨wr.heap.size,2,none⟩=some (.slice ra rn rc)) (first | exact ⟨x0,x1,x2⟩ | exact ⟨ka x0,ka x1,ka x2⟩ | exact ⟨q0,q1,q2⟩ | exact ⟨p0,p1,p2⟩ | simp [go_sem, *])
    (first
     | (refine app_step elRd (by rfl) _ _ (by rfl) (w.heap.size+1) (.slice au m cu) m _ (by rfl) (own_keep OWN.out Bw.out) _ 1 _ [.int .i64 y,.int .i64 cr,.slice ra rn rc] (by rfl) (by first | exact vw_blk (Blk.fresh (by simp)) | exact vw_blk (Blk.fresh (by simp)).drew) (by simp) (by rfl) (oneC_rd ⟨y,cr,ra,rn,rc,rl⟩) (by omega) (by simp;omega) ?_;intro v3 w3 hown3 hg3 hat3;obtain ⟨w4,D4,V4,hrun4,hyr4,hg4⟩:=MORE.out _ w3 v3 Bw.out hown3 hg3 hat3;have q0:=CK3.out _ w3 hg3 Bw.out 0 _ rfl;have q1:=CK3.out _ w3 hg3 Bw.out 1 _ rfl;have q2:=CK3.out _ w3 hg3 Bw.out 2 _ rfl;have p0:=CK4.out w3 w4 hg4 0 _ q0;have p1:=CK4.out w3 w4 hg4 1 _ q1;have p2:=CK4.out w3 w4 hg4 2 _ q2;have BL4:=hid (BG.out _ w3 w4 Bw.out hg3 hg4)))
   all_goals
    go_wp2
    go_roundw
    case rel=>exact ⟨k+1,D4,V4,by omega,by go_num,by rw [HTK.out];exact hyr4,BL4.out⟩
    case measure=>simp [intOf];omega
  ·have e:l.take k=l:=List.take_of_length_le (by have:=HN.out;omega)
   rw [e] at HM
   go_wp2
   go_ret
   exact ⟨k,D,V,rfl,HM.out,HB.out⟩
theorem psingle_any (r:RcdM) (w:World) (hs:ScOk2 w r.s) (ho:r.pl.Ok) :
  Calls Tryz.prog 130 #[.agg #[.int .i64 r.year,.int .i64 r.crop,.slice r.s.a r.s.n r.s.c]] w fun e w'=>e=.returned (.int .i64 0)∧Below w.heap.size w w':=by
 obtain ⟨y,cr,a,n,c,l⟩:=r
 obtain ⟨⟨y1,y2⟩,⟨c1,c2⟩,hne,hv⟩:=ho
 dsimp only [RcdM.pl] at y1 y2 c1 c2 hne hv
 dsimp only at hs ⊢
 have hn0:0<n:=by have:=List.length_pos_iff.2 hne;have:=hs.1.2.1;dsimp only at this;omega
 have b0:((n:Int) == 0)=false:=by simp;omega
 obtain ⟨W,hW⟩:∃ W,w.alloc (.cells #[.int .i64 y,.int .i64 cr,.slice a n c] 47)=W:=⟨_,rfl⟩
 have B1:RowKit.Hid (Blk W w.heap.size 47 #[.int .i64 y,.int .i64 cr,.slice a n c]):=by show Blk _ _ _ _;rw [← hW];exact Blk.new w _ _
 have BB:RowKit.Hid (Below w.heap.size w W):=by show Below _ _ _;rw [← hW];exact Bw.out
 have m1:n≤100000:=hs.1.2.2
 have HV:=hid (valid_any a n c l W (hs.1.1.below BB.out) hs.1.2.1 (by omega))
 have V:=hid hv
 have x0:W.cell? ⟨w.heap.size,0,none⟩=some (.int .i64 y):=B1.out.cell 0
 have x1:W.cell? ⟨w.heap.size,1,none⟩=some (.int .i64 cr):=B1.out.cell 1
 have x2:W.cell? ⟨w.heap.size,2,none⟩=some (.slice a n c):=B1.out.cell 2
 clear hs hne hv
 go_enter Tryz.func130,Tryz.ntmps130
 go_wp2_with (go_at_call 96;refine HV.out.mono ?_;rintro e w1 ⟨b1,rfl,hi,hb1⟩;obtain rfl:b1=true:=hi.2 V.out;clear hi;have HB1:=hid hb1;clear hb1)
 go_ret
 exact ⟨rfl,btr BB.out HB1.out⟩
def cmpR (y1 c1 y2 c2:Int):Int:=if Lib.compareInt y1 y2=0 then Lib.compareInt c1 c2 else Lib.compareInt y1 y2
theorem cmpI_self (y:Int):Lib.compareInt y y=0:=by unfold Lib.compareInt;rw [if_neg (by omega),if_neg (by omega)]
theorem cmpI_lt {a b:Int} (h:a<b):Lib.compareInt a b = -1:=by unfold Lib.compareInt;rw [if_pos h]
theorem cmpI_gt {a b:Int} (h:b<a):Lib.compareInt a b=1:=by unfold Lib.compareInt;rw [if_neg (by omega),if_pos (by omega)]
theorem cmpR_lt {y1 c1 y2 c2:Int} (h:y1<y2∨(y1=y2∧c1<c2)):cmpR y1 c1 y2 c2<0:=by
 unfold cmpR
 rcases h with h | ⟨rfl,h⟩
 ·rw [cmpI_lt h,if_neg (by decide)];decide
 ·rw [cmpI_self,if_pos rfl,cmpI_lt h];decide
theorem cmpR_ge {y1 c1 y2 c2:Int} (h:¬ (y1<y2∨(y1=y2∧c1<c2))):0≤cmpR y1 c1 y2 c2:=by
 unfold cmpR
 by_cases e:y1=y2
 ·subst e
  rw [cmpI_self,if_pos rfl]
  by_cases e2:c1=c2
  ·rw [e2,cmpI_self];decide
  ·rw [cmpI_gt (by omega)];decide
 ·rw [cmpI_gt (by omega),if_neg (by decide)];decide
theorem or_any (x y:Int) (g:Nat) (w:World) (hB:Blk w g 3 #[.int .i64 x,.int .i64 y]) :
  Calls Tryz.prog 172 #[.slice (some ⟨g,0,none⟩) 2 2] w fun e w'=>e=.returned (.int .i64 (if x=0 then y else x))∧Below w.heap.size w w':=by
 have c0:w.cell? ⟨g,0,none⟩=some (.int .i64 x):=hB.cell 0
 have c1:w.cell? ⟨g,1,none⟩=some (.int .i64 y):=hB.cell 1
 clear hB
 by_cases hx:x=0
 ·subst hx
  rw [if_pos rfl]
  by_cases hy:y=0
  ·subst hy
   go_enter Tryz.func172,Tryz.ntmps172
   go_wp2
   go_rounds 3
   go_ret
   exact ⟨rfl,Bw.out⟩
  ·have by0:((y:Int) == 0)=false:=by simpa using hy
   clear hy
   go_enter Tryz.func172,Tryz.ntmps172
   go_wp2
   go_rounds 3
   go_ret
   exact ⟨rfl,Bw.out⟩
 ·have bx0:((x:Int) == 0)=false:=by simpa using hx
  rw [if_neg hx]
  clear hx
  go_enter Tryz.func172,Tryz.ntmps172
  go_wp2
  go_rounds 3
  go_ret
  exact ⟨rfl,Bw.out⟩
theorem pcompare_any (y1 c1 y2 c2:Int) (a1:Option Addr) (n1 k1:Nat) (a2:Option Addr) (n2 k2:Nat) (w:World) :
  Calls Tryz.prog 131 #[.agg #[.int .i64 y1,.int .i64 c1,.slice a1 n1 k1],.agg #[.int .i64 y2,.int .i64 c2,.slice a2 n2 k2]] w fun e w'=>e=.returned (.int .i64 (cmpR y1 c1 y2 c2))∧Below w.heap.size w w':=by
 obtain ⟨W,hW⟩:∃ W,(w.alloc (.cells #[.int .i64 y1,.int .i64 c1,.slice a1 n1 k1] 47)).alloc (.cells #[.int .i64 y2,.int .i64 c2,.slice a2 n2 k2] 47)=W:=⟨_,rfl⟩
 have B1:RowKit.Hid (Blk W w.heap.size 47 #[.int .i64 y1,.int .i64 c1,.slice a1 n1 k1]):=by show Blk _ _ _ _;rw [← hW];exact (Blk.new w _ _).alloc _
 have B2:RowKit.Hid (Blk W (w.heap.size+1) 47 #[.int .i64 y2,.int .i64 c2,.slice a2 n2 k2]):=by show Blk _ _ _ _;rw [← hW];exact Blk.fresh (by simp)
 have BB:RowKit.Hid (Below w.heap.size w W):=by show Below _ _ _;rw [← hW];exact Bw.out
 have x0:W.cell? ⟨w.heap.size,0,none⟩=some (.int .i64 y1):=B1.out.cell 0
 have x1:W.cell? ⟨w.heap.size,1,none⟩=some (.int .i64 c1):=B1.out.cell 1
 have z0:W.cell? ⟨w.heap.size+1,0,none⟩=some (.int .i64 y2):=B2.out.cell 0
 have z1:W.cell? ⟨w.heap.size+1,1,none⟩=some (.int .i64 c2):=B2.out.cell 1
 unfold cmpR
 obtain ⟨p,hp⟩:∃ p,Lib.compareInt y1 y2=p:=⟨_,rfl⟩
 obtain ⟨q,hq⟩:∃ q,Lib.compareInt c1 c2=q:=⟨_,rfl⟩
 have HP:RowKit.Hid (∀ W,Calls Tryz.prog 173 #[.int .i64 y1,.int .i64 y2] W fun e w'=>e=.returned (.int .i64 p)∧w'=W):=fun W=>by rw [← hp];exact Tryz.cmp_Compare_int y1 y2 W
 have HQ:RowKit.Hid (∀ W,Calls Tryz.prog 173 #[.int .i64 c1,.int .i64 c2] W fun e w'=>e=.returned (.int .i64 q)∧w'=W):=fun W=>by rw [← hq];exact Tryz.cmp_Compare_int c1 c2 W
 rw [hp,hq]
 obtain ⟨z,hz⟩:∃ z,(if p=0 then q else p)=z:=⟨_,rfl⟩
 have HO:RowKit.Hid (∀ g W,Blk W g 3 #[.int .i64 p,.int .i64 q]→Calls Tryz.prog 172 #[.slice (some ⟨g,0,none⟩) 2 2] W fun e w'=>e=.returned (.int .i64 z)∧Below W.heap.size W w'):=fun g W h=>by rw [← hz];exact or_any p q g W h
 rw [hz]
 clear hp hq hz
 go_enter Tryz.func131,Tryz.ntmps131
 go_wp2
 go_region_held3 (fun w'=>w'.cell? ⟨w.heap.size,0,none⟩=some (.int .i64 y1)∧w'.cell? ⟨w.heap.size,1,none⟩=some (.int .i64 c1)∧w'.cell? ⟨w.heap.size+1,0,none⟩=some (.int .i64 y2)∧w'.cell? ⟨w.heap.size+1,1,none⟩=some (.int .i64 c2)) (first | exact ⟨x0,x1,z0,z1⟩ | exact ⟨ka x0,ka x1,ka z0,ka z1⟩ | exact ⟨bc1 hb5 x0,bc1 hb5 x1,bc1 hb5 z0,bc1 hb5 z1⟩ | simp [go_sem, *])
  (first
   | (go_at_call 173;first
    | ((with_reducible refine (HP.out _).mono ?_);rintro e w3 ⟨rfl,rfl⟩)
    | ((with_reducible refine (HQ.out _).mono ?_);rintro e w3 ⟨rfl,rfl⟩))
   | (go_at_call 172;refine (HO.out _ _ (by first | exact Blk.fresh (by simp) | exact (Blk.fresh (by simp)).drew)).mono ?_;rintro e w5 ⟨rfl,hb⟩;have hb5:Below W.heap.size W w5:=btr Bw.out hb))
 all_goals
  go_wp2
  go_ret
  exact ⟨rfl,btr BB.out hb5⟩
theorem pcheck1_any (x r:RcdM) (g:Nat) (w:World) (hB:Blk w g 47 (encRcd r).toArray) (hx:ScOk2 w x.s) (hr:ScOk2 w r.s) (hm:¬ Meet x.s.l r.s.l) :
  Calls Tryz.prog 133 (#[.agg (encRcd x).toArray]++#[.pointer (some ⟨g,0,none⟩)]) w fun e w'=>e=.returned (.bool false)∧Below w.heap.size w w':=by
 obtain ⟨y,cr,a,n,c,l⟩:=x
 obtain ⟨y',cr',a',n',c',l'⟩:=r
 dsimp only at hx hr hm
 have m1:n≤100000:=hx.1.2.2
 have m2:n'≤100000:=hr.1.2.2
 have HM:=hid fun W (hW:Below w.heap.size w W)=>meets_any a n c l a' n' c' l' W (hx.1.1.below hW) hx.1.2.1 (by omega) (hr.1.1.below hW) hr.1.2.1 (by omega)
 have NM:=hid hm
 have hB':=hB.alloc (.cells #[.int .i64 y,.int .i64 cr,.slice a n c] 47)
 have x2:(w.alloc (.cells #[.int .i64 y,.int .i64 cr,.slice a n c] 47)).cell? ⟨g,2,none⟩=some (.slice a' n' c'):=hB'.cell 2
 clear hB hx hr hm hB'
 show Calls Tryz.prog 133 #[.agg #[.int .i64 y,.int .i64 cr,.slice a n c],.pointer (some ⟨g,0,none⟩)] w _
 go_enter Tryz.func133,Tryz.ntmps133
 go_wp2_with (go_at_call 134;refine (HM.out _ Bw.out).mono ?_;rintro e w1 ⟨b1,rfl,hi,hb1⟩;obtain rfl:b1=false:=no_true fun h=>NM.out (hi.1 h).2.2;clear hi;have HB1:=hid hb1;clear hb1)
 go_ret
 exact ⟨rfl,btr Bw.out HB1.out⟩
theorem en_check1:Enters 133:=enters_of Tryz.func133 (by kernel_rfl) rfl
theorem ofYear_apart {l:List RcdM} (h:HGood (l.map RcdM.pl)) (y:Int) (i j:Nat) (hj:j<(ofYear l y).length) (hi:i<j):¬ Meet (ofYear l y)[i].s.l (ofYear l y)[j].s.l:=by
 have hp:l.Pairwise fun a b=>a.year=b.year→¬ Meet a.s.l b.s.l:=List.pairwise_iff_getElem.2 fun i j hi hj hij e=>by
  have:=h.lap i j (by simpa using hj) hij
  simp only [List.getElem_map] at this
  exact this e
 have hq:(ofYear l y).Pairwise fun a b=>a.year=b.year→¬ Meet a.s.l b.s.l:=hp.filter _
 refine List.pairwise_iff_getElem.1 hq i j (by omega) hj hi ?_
 have h1:∀ k (hk:k<(ofYear l y).length),(ofYear l y)[k].year=y:=fun k hk=>by
  have:=List.mem_filter.1 (List.getElem_mem hk)
  exact of_decide_eq_true this.2
 rw [h1 i (by omega),h1 j hj]
theorem phcheck_any (s:Sc RcdM) (w:World) (hR:Rws encRcd w s 200) (hr:∀ r ∈ s.l,ScOk2 w r.s) (hg:HGood (s.l.map RcdM.pl)) :
  Calls Tryz.prog 94 #[.slice s.a s.n s.c] w fun e w'=>∃ x,e=.returned (.int .i64 x)∧HChk (s.l.map RcdM.pl) x∧Below w.heap.size w w':=by
 have HYR:=hid fun W (hW:Below w.heap.size w W)=>years_any s W (hR.below hW) fun r hr'=>(hg.ok _ (List.mem_map.2 ⟨r,hr',rfl⟩)).year
 obtain ⟨a,n,c,l⟩:=s
 dsimp only at hr hg HYR ⊢
 have HR:=hid hR;have HS:=hid hr;have HG:=hid hg
 have hn:l.length=n:=hR.len
 have HN:=hid hn
 have hm:n≤200:=hR.few
 have h60:¬ (200:Int)<(n:Int):=by omega
 clear hR hr hg hn
 go_enter Tryz.func94,Tryz.ntmps94
 go_wp2
 go_loopw [15] (fun i wr=>∃ k:Nat,k≤n∧i=.int .i64 k∧(∀ j (hj:j<l.length) (h:0<j),j<k→(l[j - 1]'(by omega)).pl.lt l[j].pl)∧Below w.heap.size w wr) (fun i _=>n - (intOf i).toNat)
 case atStart=>exact ⟨0,Nat.zero_le _,rfl,(fun j _ _ h=>absurd h (Nat.not_lt_zero j)),Below.refl _ _⟩
 case round =>
  obtain ⟨k,hk,rfl,hno,hb⟩:=hrel
  have NO:=hid hno;have HB:=hid hb
  clear hno hb
  by_cases hlt:k<n
  ·have hke:k<l.length:=by rw [HN.out];exact hlt
   obtain ⟨b,off,rfl,hbl,hrg⟩:=HR.out.vw.range (k:=3) (fun x _=>encRcd_len x) (by omega) k hke
   have HRG:=hid (rangeAt_below hrg HB.out)
   have HSI:=hid fun W (hW:Below w.heap.size w W)=>psingle_any l[k] W ((HS.out _ (List.getElem_mem hke)).below hW) (HG.out.ok _ (List.mem_map.2 ⟨_,List.getElem_mem hke,rfl⟩))
   have HPV:RowKit.Hid (∀ m,k=m+1→∃ (hm:m<l.length) (v:Value),wr.cell? ⟨b,off+m * 3,none⟩=some (.int .i64 l[m].year)∧wr.cell? ⟨b,off+m * 3+1,none⟩=some (.int .i64 l[m].crop)∧wr.cell? ⟨b,off+m * 3+2,none⟩=some (.slice l[m].s.a l[m].s.n l[m].s.c)):=fun m hm=>by
    subst hm
    have hml:m<l.length:=by omega
    obtain ⟨b',off',e,_,hrg'⟩:=HR.out.vw.range (k:=3) (fun x _=>encRcd_len x) (by omega) m hml
    cases e
    exact ⟨hml,nilV,(rangeAt_below hrg' HB.out) 0 _ rfl,(rangeAt_below hrg' HB.out) 1 _ rfl,(rangeAt_below hrg' HB.out) 2 _ rfl⟩
   clear hrg
   obtain ⟨r,hr⟩:∃ r,l[k]=r:=⟨_,rfl⟩
   have HRK:=hid hr
   rw [hr] at HRG HSI
   clear hr
   obtain ⟨y,cr,ra,rn,rc,rl⟩:=r
   dsimp only [encRcd] at HRG HSI
   obtain ⟨W1,hW1⟩:∃ W1,wr.alloc (.cells #[.int .i64 y,.int .i64 cr,.slice ra rn rc] 47)=W1:=⟨_,rfl⟩
   have BX:RowKit.Hid (Blk W1 wr.heap.size 47 #[.int .i64 y,.int .i64 cr,.slice ra rn rc]):=by show Blk _ _ _ _;rw [← hW1];exact Blk.new _ _ _
   have BW:RowKit.Hid (Below wr.heap.size wr W1):=by show Below _ _ _;rw [← hW1];exact Bw.out
   cases k with
   | zero =>
    go_wp2_with (first
     | (refine wpList_load_mid rfl 47 (.tmp 18) rfl b (off+0 * 3) rfl [.int .i64 y,.int .i64 cr,.slice ra rn rc] _ HRG.out Tryz.underlying47 rfl rdInfo ?_)
     | (refine st_new rfl 47 (.tmp 4) (.tmp 19) rfl #[.int .i64 y,.int .i64 cr,.slice ra rn rc] _ _ rfl rfl rdInfo rfl (rd_one _ _ _ _ _) ?_;rw [hW1])
     | (refine wpList_load_row rfl 47 (.tmp 4) rfl wr.heap.size rfl _ #[.int .i64 y,.int .i64 cr,.slice ra rn rc] _ _ BX.out Tryz.underlying47 rfl rdInfo ?_)
     | (go_at_call 130;refine (HSI.out _ (btr HB.out BW.out)).mono ?_;rintro e w1 ⟨rfl,hb1⟩;have HB1:=hid hb1;clear hb1))
    go_quiet (fail)
    go_wp2
    go_roundw
    case rel=>exact ⟨1,by omega,by go_num,(fun j hj h hjk=>by omega),(by (repeat (with_reducible first | exact btr (btr HB.out BW.out) HB1.out | exact Below.refl _ _ | refine bdr ?_ | refine bdn ?_ _ | refine bal ?_ _)))⟩
    case measure=>simp [intOf];omega
   | succ m =>
    obtain ⟨hml,-,p0,p1,p2⟩:=HPV.out m rfl
    have HLT:RowKit.Hid ((l[m]).pl.lt (l[m+1]).pl↔(l[m].year<y∨(l[m].year=y∧l[m].crop<cr))):=by
     show _↔_
     rw [HRK.out];exact Iff.rfl
    obtain ⟨rm,hrm⟩:∃ rm,l[m]=rm:=⟨_,rfl⟩
    rw [hrm] at p0 p1 p2 HLT
    have HRM:=hid hrm
    clear hrm
    obtain ⟨py,pc,pa,pn,pk,pl⟩:=rm
    dsimp only at p0 p1 p2
    have ws1:IntKind.i64.wrap (m:Int)=(m:Int):=IntWalk.i64_in _ (by omega)
    have ws2:IntKind.i64.wrap ((m:Int)+1 - 1)=(m:Int):=by rw [show (m:Int)+1 - 1=m by omega];exact ws1
    have i0:(0:Int)≤(m:Int):=by omega
    have i1:(m:Int)<(n:Int):=by omega
    have hlt2:∃ z,cmpR py pc y cr=z:=⟨_,rfl⟩
    obtain ⟨z,hz⟩:=hlt2
    have HC:RowKit.Hid (∀ W,Calls Tryz.prog 131 #[.agg #[.int .i64 py,.int .i64 pc,.slice pa pn pk],.agg #[.int .i64 y,.int .i64 cr,.slice ra rn rc]] W fun e w'=>e=.returned (.int .i64 z)∧Below W.heap.size W w'):=fun W=>by rw [← hz];exact pcompare_any py pc y cr pa pn pk ra rn rc W
    have HZ:=hid hz
    clear hz
    by_cases hc:py<y∨(py=y∧pc<cr)
    ·have hz0:z<0:=by rw [← HZ.out];exact cmpR_lt hc
     have hz1:decide (0≤z)=false:=decide_eq_false (by omega)
     have HCC:=hid hc
     clear hc
     go_wp2_with (first
      | (refine wpList_load_mid rfl 47 (.tmp 18) rfl b (off+(m+1) * 3) rfl [.int .i64 y,.int .i64 cr,.slice ra rn rc] _ HRG.out Tryz.underlying47 rfl rdInfo ?_)
      | (refine st_new rfl 47 (.tmp 4) (.tmp 19) rfl #[.int .i64 y,.int .i64 cr,.slice ra rn rc] _ _ rfl rfl rdInfo rfl (rd_one _ _ _ _ _) ?_;rw [hW1])
      | (refine wpList_load_row rfl 47 (.tmp 4) rfl wr.heap.size rfl _ #[.int .i64 y,.int .i64 cr,.slice ra rn rc] _ _ BX.out Tryz.underlying47 rfl rdInfo ?_)
      | (go_at_call 130;refine (HSI.out _ (btr HB.out BW.out)).mono ?_;rintro e w1 ⟨rfl,hb1⟩;have HB1:=hid hb1;clear hb1))
     have BX1:=BX.out.below HB1.out
     have x0:w1.cell? ⟨wr.heap.size,0,none⟩=some (.int .i64 y):=BX1.cell 0
     have x1:w1.cell? ⟨wr.heap.size,1,none⟩=some (.int .i64 cr):=BX1.cell 1
     have x2:w1.cell? ⟨wr.heap.size,2,none⟩=some (.slice ra rn rc):=BX1.cell 2
     have q0:=bc1 (btr BW.out HB1.out) p0
     have q1:=bc1 (btr BW.out HB1.out) p1
     have q2:=bc1 (btr BW.out HB1.out) p2
     clear p0 p1 p2 BX1
     have zz0:(0:Int)≤(m:Int)+1 - 1:=by omega
     go_region_held3 (fun w'=>w'.cell? ⟨wr.heap.size,0,none⟩=some (.int .i64 y)∧w'.cell? ⟨wr.heap.size,1,none⟩=some (.int .i64 cr)∧w'.cell? ⟨wr.heap.size,2,none⟩=some (.slice ra rn rc)∧w'.cell? ⟨b,off+m * 3,none⟩=some (.int .i64 py)∧w'.cell? ⟨b,off+m * 3+1,none⟩=some (.int .i64 pc)∧w'.cell? ⟨b,off+m * 3+2,none⟩=some (.slice pa pn pk)) (first | exact ⟨x0,x1,x2,q0,q1,q2⟩ | exact ⟨bc1 hb5 x0,bc1 hb5 x1,bc1 hb5 x2,bc1 hb5 q0,bc1 hb5 q1,bc1 hb5 q2⟩ | simp [go_sem, *])
      ((go_at_call 131;refine (HC.out _).mono ?_;rintro e w5 ⟨rfl,hb⟩;have hb5:Below w1.heap.size w1 w5:=btr Bw.out hb))
     all_goals
      go_wp2
      go_roundw
      case rel =>
       refine ⟨m+1+1,by omega,by go_num,fun j hj h hjk=>?_,btr (btr (btr HB.out BW.out) HB1.out) hb5⟩
       by_cases e:j=m+1
       ·subst e
        have:=HLT.out.2 HCC.out
        rw [← HRM.out] at this
        exact this
       ·exact NO.out j hj h (by omega)
      case measure=>simp [intOf];omega
    ·have hz0:0≤z:=by rw [← HZ.out];exact cmpR_ge hc
     have HCC:=hid hc
     clear hc
     go_wp2_with (first
      | (refine wpList_load_mid rfl 47 (.tmp 18) rfl b (off+(m+1) * 3) rfl [.int .i64 y,.int .i64 cr,.slice ra rn rc] _ HRG.out Tryz.underlying47 rfl rdInfo ?_)
      | (refine st_new rfl 47 (.tmp 4) (.tmp 19) rfl #[.int .i64 y,.int .i64 cr,.slice ra rn rc] _ _ rfl rfl rdInfo rfl (rd_one _ _ _ _ _) ?_;rw [hW1])
      | (refine wpList_load_row rfl 47 (.tmp 4) rfl wr.heap.size rfl _ #[.int .i64 y,.int .i64 cr,.slice ra rn rc] _ _ BX.out Tryz.underlying47 rfl rdInfo ?_)
      | (go_at_call 130;refine (HSI.out _ (btr HB.out BW.out)).mono ?_;rintro e w1 ⟨rfl,hb1⟩;have HB1:=hid hb1;clear hb1))
     have BX1:=BX.out.below HB1.out
     have x0:w1.cell? ⟨wr.heap.size,0,none⟩=some (.int .i64 y):=BX1.cell 0
     have x1:w1.cell? ⟨wr.heap.size,1,none⟩=some (.int .i64 cr):=BX1.cell 1
     have x2:w1.cell? ⟨wr.heap.size,2,none⟩=some (.slice ra rn rc):=BX1.cell 2
     have q0:=bc1 (btr BW.out HB1.out) p0
     have q1:=bc1 (btr BW.out HB1.out) p1
     have q2:=bc1 (btr BW.out HB1.out) p2
     clear p0 p1 p2 BX1
     have zz0:(0:Int)≤(m:Int)+1 - 1:=by omega
     go_region_held3 (fun w'=>w'.cell? ⟨wr.heap.size,0,none⟩=some (.int .i64 y)∧w'.cell? ⟨wr.heap.size,1,none⟩=some (.int .i64 cr)∧w'.cell? ⟨wr.heap.size,2,none⟩=some (.slice ra rn rc)∧w'.cell? ⟨b,off+m * 3,none⟩=some (.int .i64 py)∧w'.cell? ⟨b,off+m * 3+1,none⟩=some (.int .i64 pc)∧w'.cell? ⟨b,off+m * 3+2,none⟩=some (.slice pa pn pk)) (first | exact ⟨x0,x1,x2,q0,q1,q2⟩ | exact ⟨bc1 hb5 x0,bc1 hb5 x1,bc1 hb5 x2,bc1 hb5 q0,bc1 hb5 q1,bc1 hb5 q2⟩ | simp [go_sem, *])
      ((go_at_call 131;refine (HC.out _).mono ?_;rintro e w5 ⟨rfl,hb⟩;have hb5:Below w1.heap.size w1 w5:=btr Bw.out hb))
     all_goals
      go_wp2
      go_ret
      refine ⟨3,rfl,hsort_bad (m:=m) (by simpa using hke) ?_,btr (btr (btr HB.out BW.out) HB1.out) hb5⟩
      simp only [List.getElem_map]
      have:=HLT.out
      rw [← HRM.out] at this
      rw [this]
      exact HCC.out
  ·have HSO:RowKit.Hid (HChk (l.map RcdM.pl) 0):=by
    refine ⟨fun _=>rfl,fun h=>absurd (fun j hj h0=>?_) h⟩
    simp only [List.getElem_map]
    exact NO.out j (by simpa using hj) h0 (by have:=HN.out;simp at hj;omega)
   clear NO
   go_wp2_with (first
    | (go_at_call 132;refine (HYR.out _ HB.out).mono ?_;rintro e w2 ⟨n2,D,V,rfl,hm2,hb2⟩;have HM2:=hid hm2;have HB2:=hid hb2;clear hm2 hb2)
    | (at_range;refine wpList_range_own _ rfl _ 184 rfl 3 32 kInt Tryz.underlying184 hdrE wr.heap.size n2 D rfl HM2.out.map ?_;intro w3 hrg3 hg3 hs3))
   go_frame
   have HM3:RowKit.Hid (∀ y,w3.ownsRow (wr.heap.size+1) 47 3 (V y) (ofYear l y).length (cellsOf encRcd (ofYear l y))):=fun y=>(HM2.out.row y).kept hg3 (by
    cases hv:(V y).ownBlock with
    | none=>exact .inl rfl
    | some g=>exact .inr (by simp))
   have HVB:RowKit.Hid (∀ y g,(V y).ownBlock=some g→g<w2.heap.size):=fun y g e=>((HM2.out.row y).lt g e).2
   have HAT:=hid HM2.out.at_
   have HB3:RowKit.Hid (Below w.heap.size w w3):=btr (btr HB.out HB2.out) ⟨hg3.os,hg3.tape,hg3.output,hg3.size,fun i hi=>hg3.block i hi (by simp)⟩
   have HRG3:=hid hrg3
   have hw23:w.heap.size≤w2.heap.size:=(btr HB.out HB2.out).size
   clear hrg3 hg3 hs3 HM2
   have HBWO:=hid HB.out
   obtain ⟨wo,rfl⟩:∃ wo:World,wo=wr:=⟨_,rfl⟩
   clear HB
   go_loopw [41] (fun _ wx=>∃ (left:Lit→Bool) (cnt:Nat),wx.ranges Tryz.prog 3 hdrE wo.heap.size w2.heap.size n2 D left cnt∧(∀ y,wx.ownsRow (wo.heap.size+1) 47 3 (V y) (ofYear l y).length (cellsOf encRcd (ofYear l y)))∧Below w.heap.size w wx) (fun _ wx=>wx.rangeLeft wo.heap.size w2.heap.size)
   case atStart=>exact ⟨_,_,HRG3.out,HM3.out,HB3.out⟩
   case round =>
    obtain ⟨left,cnt,hrg,hrow,hb⟩:=hrel
    have HRG:=hid hrg;have HRW:=hid hrow;have HB:=hid hb
    clear hrg hrow hb HRG3 HM3 HB3
    go_wp2_with (first
     | (at_next;refine wpList_next_ranges _ rfl _ rfl 3 kInt hdrE (Value.int .i64) (fun q:Option Addr × Nat × Nat=>.slice q.1 q.2.1 q.2.2) (fun key kl h=>(by obtain ⟨x,rfl,_⟩:=Maps.keyOf_int_inv Tryz.underlying3 h;exact ⟨x,rfl⟩)) (fun v y h=>hdrE_inv h) wo.heap.size w2.heap.size n2 D left cnt rfl HRG.out ?_ ?_)
     | go_in)
    ·intro _ _
     go_wp2
     go_ret
     exact ⟨0,rfl,HSO.out,HB.out⟩
    ·intro x ca cn cc kl yd yp w4 cnt4 hkey hlk hv hat hrg4 hlt4 hg4 hs4 hen
     obtain ⟨x',ex,rfl,hwx⟩:=Maps.keyOf_int_inv Tryz.underlying3 hkey
     cases ex
     have hVx:V x=.slice ca cn cc:=by
      have h1:=HAT.out x
      rw [hat] at h1
      simp only [hdrE,Option.some.injEq,Prod.mk.injEq] at hv
      rw [← hv.1] at h1
      simpa using h1.symm
     have hown:w4.ownsRow (wo.heap.size+1) 47 3 (.slice ca cn cc) (ofYear l x).length (cellsOf encRcd (ofYear l x)):=by
      have h1:=(HRW.out x).kept hg4 (by
       cases hvv:(V x).ownBlock with
       | none=>exact .inl rfl
       | some g=>have:=HVB.out x g hvv;exact .inr fun e=>by have:=Option.some.inj e;omega)
      rw [hVx] at h1
      exact h1
     have HR4:RowKit.Hid (∀ y,w4.ownsRow (wo.heap.size+1) 47 3 (V y) (ofYear l y).length (cellsOf encRcd (ofYear l y))):=fun y=>(HRW.out y).kept hg4 (by
      cases hvv:(V y).ownBlock with
      | none=>exact .inl rfl
      | some g=>have:=HVB.out y g hvv;exact .inr fun e=>by have:=Option.some.inj e;omega)
     have HB4:RowKit.Hid (Below w.heap.size w w4):=HB.out.grown hg4 HB.out.size fun g e=>by have:=Option.some.inj e;omega
     have HG4:=hid hrg4
     have HLT4:=hid hlt4
     have HS4:RowKit.Hid (∀ r ∈ ofYear l x,ScOk2 w r.s):=fun r hr=>HS.out r (List.mem_filter.1 hr).1
     have HAP:=hid (fun i j hj hi=>ofYear_apart HG.out x i j hj hi)
     obtain ⟨L,hL⟩:∃ L,ofYear l x=L:=⟨_,rfl⟩
     have hlen:(ofYear l x).length≤200:=by
      have h1:=List.length_filter_le (fun r=>decide (r.year=x)) l
      have:=HN.out
      unfold ofYear;omega
     rw [hL] at hown HS4 hlen
     have HAP':RowKit.Hid (∀ i j (hj:j<L.length) (hi:i<j),¬ Meet L[i].s.l L[j].s.l):=by subst hL;exact HAP.out
     obtain ⟨a9,c9,e9,hcap,hcm,-⟩:=own_form hown
     simp only [Value.slice.injEq] at e9
     obtain ⟨rfl,hcn,rfl⟩:=e9
     subst hcn
     obtain ⟨m,hm'⟩:∃ m,L.length=m:=⟨_,rfl⟩
     rw [hm'] at hown hcap hlen
     have HML:=hid hm'
     have HVW:=hid (vw_of_own hown)
     rw [hm'] at hen ⊢
     clear hkey hlk hv hat hrg4 hlt4 hg4 hVx hown HAP hL hm'
     unfold maxLen at hcm
     go_wp2
     obtain ⟨wi,rfl⟩:∃ wi:World,wi=wr:=⟨_,rfl⟩
     go_loopw [47] (fun i wx=>∃ j:Nat,j≤m∧i=.int .i64 j∧Below w4.heap.size w4 wx) (fun i _=>m - (intOf i).toNat)
     case atStart=>exact ⟨0,Nat.zero_le _,rfl,Below.refl _ _⟩
     case round =>
      obtain ⟨j,hj,rfl,hb⟩:=hrel
      have HBJ:=hid hb
      clear hb
      by_cases hltj:j<m
      ·have hje:j<L.length:=by rw [HML.out];exact hltj
       obtain ⟨b,off,rfl,_,hrg⟩:=HVW.out.range (k:=3) (fun x _=>encRcd_len x) (by omega) j hje
       have HRJ:=hid (rangeAt_below hrg HBJ.out)
       have HCF:RowKit.Hid (∀ W g,Below wr.heap.size wr W→Blk W g 47 (encRcd L[j]).toArray→Calls Tryz.prog 92 #[.slice (some ⟨b,off,none⟩) j cc,.func (.func 133) #[] #[.pointer (some ⟨g,0,none⟩)]] W fun e w'=>e=.returned (.bool false)∧Below W.heap.size W w'):=fun W g hW hB=>by
        have hbb:Below w.heap.size w W:=btr (btr HB4.out HBJ.out) hW
        have h1:=cfRd encRcd 133 #[.pointer (some ⟨g,0,none⟩)] en_check1 (some ⟨b,off,none⟩) j cc (L.take j) (fun _=>false) W (by
          rw [← cellsOf_take encRcd_len]
          exact ((HVW.out.below HBJ.out).below hW).take _) (by rw [List.length_take];omega) (by omega) (fun x _=>encRcd_len x) (fun W' hW' z hz=>by
          obtain ⟨i,hi,rfl⟩:=List.getElem_of_mem hz
          rw [List.length_take] at hi
          rw [List.getElem_take]
          exact pcheck1_any L[i] L[j] g W' (hB.below hW') ((HS4.out _ (List.getElem_mem (by omega))).below (btr hbb hW')) ((HS4.out _ (List.getElem_mem hje)).below (btr hbb hW')) (HAP'.out i j hje (by omega)))
        have e0:(L.take j).any (fun _=>false)=false:=by simp
        rw [e0] at h1
        exact h1
       clear hrg
       obtain ⟨rj,hrj⟩:∃ rj,L[j]=rj:=⟨_,rfl⟩
       rw [hrj] at HRJ HCF
       clear hrj
       obtain ⟨y',cr',ra',rn',rc',rl'⟩:=rj
       dsimp only [encRcd] at HRJ HCF
       have i0:(0:Int)≤(j:Int):=by omega
       have i2:(j:Int)≤(cc:Int):=by omega
       go_wp2_with (first
        | (refine wpList_load_mid rfl 47 (.tmp 50) rfl b (off+j * 3) rfl [.int .i64 y',.int .i64 cr',.slice ra' rn' rc'] _ HRJ.out Tryz.underlying47 rfl rdInfo ?_)
        | (refine st_new rfl 47 (.tmp 9) (.tmp 51) rfl #[.int .i64 y',.int .i64 cr',.slice ra' rn' rc'] _ _ rfl rfl rdInfo rfl (rd_one _ _ _ _ _) ?_)
        | (go_at_call 92;refine (HCF.out _ _ Bw.out (Blk.new _ _ _)).mono ?_;rintro e w1 ⟨rfl,hb1⟩))
       go_roundw
       case rel=>exact ⟨j+1,by omega,by go_num,btr (by (repeat (with_reducible first | exact HBJ.out | exact Below.refl _ _ | refine bdr ?_ | refine bdn ?_ _ | refine bal ?_ _))) hb1⟩
       case measure=>simp [intOf];omega
      ·go_wp2
       go_roundw
       case rel=>exact ⟨_,cnt4,HG4.out.kept (below_grown HBJ.out none) (by simp) (by simp),fun y=>own_keep (HR4.out y) HBJ.out,btr HB4.out HBJ.out⟩
       case measure=>rw [(HG4.out.kept (below_grown HBJ.out none) (by simp) (by simp)).left_eq,HRG.out.left_eq];exact HLT4.out
end Go.Proofs.YtancajcelmhnkaaGreatDoor
