/- ref15.Squares,ref09.Squares. (Printed by gen4/rsq.py.) -/
import Derived.Test.YtancajcelmhnkaaGreatDoorGw
set_option maxRecDepth 100000
set_option maxHeartbeats 4000000
namespace Go.Proofs.YtancajcelmhnkaaGreatDoor
open Go.RowKit Go.Sort Go.Shelf
set_option linter.unusedVariables false
set_option linter.unusedSimpArgs false
def NewCS (w:World) (U:Sq) (e:Ending) (w':World):Prop:=∃ s:Sc Rc,e=.returned (.slice s.a s.n s.c)∧CanS w' U s∧Below w.heap.size w w'∧(∀ b off,s.a=some ⟨b,off,none⟩→w.heap.size≤b)∧s.n≤120
theorem combS {s t:Sc Rc} {S T U:Sq} (how:Int) {w:World} (h:CanS w S s) (k:CanS w T t) (hU:∀ x y,keepB how (insB s.l x y) (insB t.l x y)=true↔U x y) (hb:Board U) :
  Calls Tryz.prog 62 #[.slice s.a s.n s.c,.slice t.a t.n t.c,.int .i64 how] w (NewCS w U) :=
 (comb_any s.a s.n s.c s.l t.a t.n t.c t.l how U w h.ok.1 k.ok.1 hU).mono fun e w' z=>by
  obtain ⟨a,n,c,l,h1,h2,h3,h4,h5,h6⟩:=z.toB hb
  exact ⟨⟨a,n,c,l⟩,h1,⟨h2,h3⟩,h4,h5,h6⟩
theorem orS {s t:Sc Rc} {S T:Sq} {w:World} (h:CanS w S s) (k:CanS w T t) (hb:Board S) (kb:Board T) :
  Calls Tryz.prog 62 #[.slice s.a s.n s.c,.slice t.a t.n t.c,.int .i64 1] w (NewCS w fun x y=>S x y∨T x y) :=
 combS 1 h k (fun x y=>(keep_or _ _ x y).trans (or_congr (h.can.iff x y) (k.can.iff x y))) fun x y q=>q.elim (hb x y) (kb x y)
theorem andS {s t:Sc Rc} {S T:Sq} {w:World} (h:CanS w S s) (k:CanS w T t) (hb:Board S) :
  Calls Tryz.prog 62 #[.slice s.a s.n s.c,.slice t.a t.n t.c,.int .i64 2] w (NewCS w fun x y=>S x y∧T x y) :=
 combS 2 h k (fun x y=>(keep_and _ _ x y).trans (and_congr (h.can.iff x y) (k.can.iff x y))) fun x y q=>hb x y q.1
theorem notS {s t:Sc Rc} {S T:Sq} {w:World} (h:CanS w S s) (k:CanS w T t) (hb:Board S) :
  Calls Tryz.prog 62 #[.slice s.a s.n s.c,.slice t.a t.n t.c,.int .i64 3] w (NewCS w fun x y=>S x y∧¬ T x y) :=
 combS 3 h k (fun x y=>(keep_not _ _ x y).trans (and_congr (h.can.iff x y) (not_congr (k.can.iff x y)))) fun x y q=>hb x y q.1
def selR (cr:List Crp) (year fam marks:Int) (r:RcdM):Bool:=decide (r.year=year) && (decide (fam<0) || decide ((crpAt cr r.crop).family=fam)) && (decide (marks=0) || decide (bits .and .i64 (crpAt cr r.crop).marks marks=marks))
def takeZ {α:Type} (rc:α→List Rc) (sel:α→Bool) (l:List α):Sq:=fun x y=>∃ r ∈ l,sel r=true∧inRc (rc r) x y
theorem takeZ_succ {α:Type} {rc:α→List Rc} {sel:α→Bool} {l:List α} {k:Nat} (h:k<l.length) (x y:Int):takeZ rc sel (l.take (k+1)) x y↔takeZ rc sel (l.take k) x y∨(sel l[k]=true∧inRc (rc l[k]) x y):=by
 unfold takeZ
 rw [List.take_succ_eq_append_getElem h]
 constructor
 ·rintro ⟨r,hr,h1,h2⟩
  rcases List.mem_append.1 hr with hr | hr
  ·exact .inl ⟨r,hr,h1,h2⟩
  ·rw [List.mem_singleton.1 hr] at h1 h2;exact .inr ⟨h1,h2⟩
 ·rintro (⟨r,hr,h1,h2⟩ | ⟨h1,h2⟩)
  ·exact ⟨r,List.mem_append.2 (.inl hr),h1,h2⟩
  ·exact ⟨_,List.mem_append.2 (.inr (List.mem_singleton.2 rfl)),h1,h2⟩
theorem takeZ_board {α:Type} {rc:α→List Rc} {sel:α→Bool} {l:List α} (h:∀ r ∈ l,Board (inRc (rc r))) (k:Nat):Board (takeZ rc sel (l.take k)):=fun x y ⟨r,hr,_,h2⟩=>h r (List.mem_of_mem_take hr) x y h2
def SqZ {α:Type} (rc:α→List Rc) (sel:α→Bool) (W:World) (l:List α) (n:Nat) (v i:Value) (wr:World):Prop :=
 ∃ (k:Nat) (t:Sc Rc),k≤n∧i=.int .i64 k∧v=.slice t.a t.n t.c∧CanS wr (takeZ rc sel (l.take k)) t∧Below W.heap.size W wr∧∀ b off,t.a=some ⟨b,off,none⟩→W.heap.size≤b
theorem sqZ_nil {α:Type} (rc:α→List Rc) (sel:α→Bool) (W:World) (l:List α) (n:Nat):SqZ rc sel W l n (.slice none 0 0) (.int .i64 0) W :=
 ⟨0,nilSc,Nat.zero_le _,rfl,rfl,canS_nil _ (fun x y ⟨r,hr,_⟩=>by cases hr),Below.refl _ _,fun b off e=>by cases e⟩
theorem crop_cells {w:World} {s:Sc Crp} {m:Nat} (h:Rws encCrp w s m) {k:Nat} (hk:k<s.n):∃ b off,s.a=some ⟨b,off,none⟩∧b<w.heap.size∧w.cell? ⟨b,off+k * 3+1,none⟩=some (.int .i64 (crpAt s.l k).family)∧w.cell? ⟨b,off+k * 3+2,none⟩=some (.int .i64 (crpAt s.l k).marks):=by
 have hkl:k<s.l.length:=by rw [h.len];exact hk
 obtain ⟨b,off,ha,hb,hrg⟩:=h.vw.range (k:=3) (fun x _=>encCrp_len x) (by omega) k hkl
 have e:crpAt s.l k=s.l[k]:=by unfold crpAt;simp [List.getD,hkl]
 rw [e]
 exact ⟨b,off,ha,hb,hrg 1 _ rfl,hrg 2 _ rfl⟩
theorem rsquares_any (s:Sc RcdM) (cs:Sc Crp) (year fam marks:Int) (w:World) (hR:Rws encRcd w s 200) (hC:Rws encCrp w cs 40) (hr:∀ r ∈ s.l,ScOk2 w r.s∧0≤r.crop∧r.crop<cs.n) (hc:∀ r ∈ s.l,IsCan (inRc r.s.l) r.s.l∧Board (inRc r.s.l)) :
  Calls Tryz.prog 65 #[.slice s.a s.n s.c,.slice cs.a cs.n cs.c,.int .i64 year,.int .i64 fam,.int .i64 marks] w (NewCS w (takeZ (fun r:RcdM=>r.s.l) (selR cs.l year fam marks) s.l)):=by
 obtain ⟨A,N,C,L⟩:=s
 obtain ⟨cA,cN,cC,cL⟩:=cs
 have HR:=hid hR;have HS:=hid hr;have HBD:=hid hc;have HCR:=hid hC
 have hn:L.length=N:=hR.len
 have HN:=hid hn
 have hm:N≤200:=hR.few
 clear hR hr hc hn hC
 dsimp only
 go_enter Tryz.func65,Tryz.ntmps65
 go_wp2
 go_loopw [11,16] (fun v i wr=>SqZ (fun r:RcdM=>r.s.l) (selR cL year fam marks) w L N v i wr) (fun _ i _=>N - (intOf i).toNat)
 case atStart=>exact sqZ_nil _ _ _ _ _
 case round =>
  obtain ⟨k,⟨a,n,c,l⟩,hk,rfl,rfl,hcan,hbw,hfr⟩:=hrel
  have FR:=hid hfr;have CAN:=hid hcan;have HB:=hid hbw
  have yb:=hbw.size
  clear hcan hbw hfr
  by_cases hlt:k<N
  ·have hke:k<L.length:=by rw [HN.out];exact hlt
   obtain ⟨b,off,rfl,hbl,hrg⟩:=HR.out.vw.range (k:=3) (fun x _=>encRcd_len x) (by omega) k hke
   have HRG:=hid (rangeAt_below hrg HB.out)
   have HSK:=hid ((HS.out _ (List.getElem_mem hke)).1.below HB.out)
   have HCI:=(HS.out _ (List.getElem_mem hke)).2
   have HCK:=hid (HBD.out _ (List.getElem_mem hke))
   have HSU:=hid (takeZ_succ (rc:=fun r:RcdM=>r.s.l) (sel:=(selR cL year fam marks)) hke)
   have HBK:=hid (takeZ_board (rc:=fun r:RcdM=>r.s.l) (sel:=(selR cL year fam marks)) (fun r hr=>(HBD.out r hr).2) k)
   clear hrg
   obtain ⟨r,hr⟩:∃ r,L[k]=r:=⟨_,rfl⟩
   rw [hr] at HRG HSK HCI HCK HSU
   clear hr hke
   obtain ⟨y0,cr,ra,rn,rc,rl⟩:=r
   dsimp only at HCI
   obtain ⟨hc0,hc1⟩:=HCI
   obtain ⟨j,rfl⟩:=Int.eq_ofNat_of_zero_le hc0
   have hj:j<cN:=by omega
   obtain ⟨cb,co,rfl,hcb,hcf,hcm⟩:=crop_cells HCR.out hj
   have HSEL:RowKit.Hid (selR cL year fam marks ⟨y0,j,⟨ra,rn,rc,rl⟩⟩=(decide (y0=year) && (decide (fam<0) || decide ((crpAt cL j).family=fam)) && (decide (marks=0) || decide (bits .and .i64 (crpAt cL j).marks marks=marks)))):=rfl
   dsimp only at hcf hcm
   obtain ⟨fa,hfa⟩:∃ fa,(crpAt cL j).family=fa:=⟨_,rfl⟩
   obtain ⟨mk,hmk⟩:∃ mk,(crpAt cL j).marks=mk:=⟨_,rfl⟩
   rw [hfa] at hcf HSEL
   rw [hmk] at hcm HSEL
   clear hfa hmk
   have f0:=bc1 HB.out hcf;have m0:=bc1 HB.out hcm
   clear hcf hcm hc0 hc1
   dsimp only [encRcd] at HRG HSK HSU
   obtain ⟨sl,hsl⟩:∃ sl,selR cL year fam marks ⟨y0,j,⟨ra,rn,rc,rl⟩⟩=sl:=⟨_,rfl⟩
   rw [hsl] at HSU HSEL
   clear hsl
   go_upto_region 5 with (first
    | (refine wpList_load_mid rfl 47 (.tmp 18) rfl b (off+k * 3) rfl [.int .i64 y0,.int .i64 j,.slice ra rn rc] _ HRG.out Tryz.underlying47 rfl rdInfo ?_)
    | (refine st_new rfl 47 (.tmp 13) (.tmp 19) rfl #[.int .i64 y0,.int .i64 j,.slice ra rn rc] _ _ rfl rfl rdInfo rfl (rd_one _ _ _ _ _) ?_))
   obtain ⟨W1,hW1⟩:∃ W1,wr.alloc (.cells #[.int .i64 y0,.int .i64 j,.slice ra rn rc] 47)=W1:=⟨_,rfl⟩
   have BX:RowKit.Hid (Blk W1 wr.heap.size 47 #[.int .i64 y0,.int .i64 j,.slice ra rn rc]):=by show Blk _ _ _ _;rw [← hW1];exact Blk.new _ _ _
   have BR1:RowKit.Hid (Below wr.heap.size wr W1):=by show Below _ _ _;rw [← hW1];exact Bw.out
   have c0:W1.cell? ⟨wr.heap.size,0,none⟩=some (.int .i64 y0):=BX.out.cell 0
   have c1:W1.cell? ⟨wr.heap.size,1,none⟩=some (.int .i64 j):=BX.out.cell 1
   have c2:W1.cell? ⟨wr.heap.size,2,none⟩=some (.slice ra rn rc):=BX.out.cell 2
   have f1:=bc1 BR1.out f0;have m1':=bc1 BR1.out m0
   rw [hW1]
   clear hW1 f0 m0
   dsimp only [Act.put]
   go_cut [53] (fun v wx=>v=.bool sl∧wx=W1)
   case first =>
    by_cases hy:y0=year
    ·subst hy
     by_cases hf:fam<0
     ·skip
      by_cases hm:marks=0
      ·subst hm
       have HV:RowKit.Hid (sl=true):=HSEL.out.trans (by simp [hf])
       go_wp2
       go_meet
       case rel=>exact ⟨by rw [HV.out],by first | rfl | trivial⟩
      ·have m1:((marks:Int) == 0)=false:=by simpa using hm
       by_cases hx:bits .and .i64 mk marks=marks
       ·have x1:(bits .and .i64 mk marks == marks)=true:=by simpa using hx
        have HV:RowKit.Hid (sl=true):=HSEL.out.trans (by simp [hf,hm,hx])
        go_wp2
        go_meet
        case rel=>exact ⟨by rw [HV.out],by first | rfl | trivial⟩
       ·have x1:(bits .and .i64 mk marks == marks)=false:=by simpa using hx
        have HV:RowKit.Hid (sl=false):=HSEL.out.trans (by simp [hf,hm,hx])
        go_wp2
        go_meet
        case rel=>exact ⟨by rw [HV.out],by first | rfl | trivial⟩
     ·by_cases hq:fa=fam
      ·subst hq
       by_cases hm:marks=0
       ·subst hm
        have HV:RowKit.Hid (sl=true):=HSEL.out.trans (by simp [hf])
        go_wp2
        go_meet
        case rel=>exact ⟨by rw [HV.out],by first | rfl | trivial⟩
       ·have m1:((marks:Int) == 0)=false:=by simpa using hm
        by_cases hx:bits .and .i64 mk marks=marks
        ·have x1:(bits .and .i64 mk marks == marks)=true:=by simpa using hx
         have HV:RowKit.Hid (sl=true):=HSEL.out.trans (by simp [hf,hm,hx])
         go_wp2
         go_meet
         case rel=>exact ⟨by rw [HV.out],by first | rfl | trivial⟩
        ·have x1:(bits .and .i64 mk marks == marks)=false:=by simpa using hx
         have HV:RowKit.Hid (sl=false):=HSEL.out.trans (by simp [hf,hm,hx])
         go_wp2
         go_meet
         case rel=>exact ⟨by rw [HV.out],by first | rfl | trivial⟩
      ·have q1:((fa:Int) == fam)=false:=by simpa using hq
       have HV:RowKit.Hid (sl=false):=HSEL.out.trans (by simp [hf,hq])
       go_wp2
       go_meet
       case rel=>exact ⟨by rw [HV.out],by first | rfl | trivial⟩
    ·have y1:((y0:Int) == year)=false:=by simpa using hy
     have HV:RowKit.Hid (sl=false):=HSEL.out.trans (by simp [hy])
     go_wp2
     go_meet
     case rel=>exact ⟨by rw [HV.out],by first | rfl | trivial⟩
   case rest =>
   obtain ⟨rfl,rfl⟩:=hcut
   clear f1 m1'
   cases sl with
   | true =>
    have HK:=hid ((orS (s:=⟨a,n,c,l⟩) (t:=⟨ra,rn,rc,rl⟩) (CAN.out.below BR1.out) ⟨HSK.out.below BR1.out,HCK.out.1⟩ HBK.out HCK.out.2).mono fun e w' z=>z)
    dsimp only at HK
    go_wp2_with (go_at_call 62;refine HK.out.mono ?_;rintro e w2 ⟨⟨a2,n2,c2',l2⟩,rfl,h1,h2,h3,h4⟩;have FR2:=hid h3;have CAN2:=hid h1;have Q2:=hid (btr BR1.out h2);clear h1 h2 h3 h4)
    go_roundw
    case rel=>exact ⟨k+1,⟨a2,n2,c2',l2⟩,by omega,by go_num,rfl,CAN2.out.congr fun x y=>((HSU.out x y).trans ⟨fun h=>h.elim .inl fun h=>.inr h.2,fun h=>h.elim .inl fun h=>.inr ⟨by first | rfl | trivial,h⟩⟩).symm,btr HB.out Q2.out,fun b off e=>by have:=FR2.out b off e;have:=BR1.out.size;omega⟩
    case measure=>simp [intOf];omega
   | false =>
    go_wp2
    go_roundw
    case rel=>exact ⟨k+1,⟨a,n,c,l⟩,by omega,by go_num,rfl,(CAN.out.below BR1.out).congr fun x y=>((HSU.out x y).trans ⟨fun h=>h.elim id fun h=>(by cases h.1),.inl⟩).symm,btr HB.out BR1.out,FR.out⟩
    case measure=>simp [intOf];omega
  ·obtain rfl:k=N:=by omega
   have e:L.take k=L:=List.take_of_length_le (by have:=HN.out;omega)
   rw [e] at CAN
   have hbd:Board (takeZ (fun r:RcdM=>r.s.l) (selR cL year fam marks) L):=fun x y ⟨r,hr,_,h2⟩=>(HBD.out r hr).2 x y h2
   have HNN:=hid (can_120 CAN.out.can hbd)
   have HL:=hid CAN.out.ok.1.2.1
   clear hbd e
   go_wp2
   go_ret
   exact ⟨⟨a,n,c,l⟩,rfl,CAN.out,HB.out,FR.out,by have h1:=HNN.out;have h2:=HL.out;dsimp only at h1 h2 ⊢;omega⟩
def selF (kind day:Int) (f:FtrM):Bool:=decide (f.since≤day∧day<f.till) && decide (f.kind=kind)
theorem rthere_any (nu ki a b d:Int) (v:Value) (hv:v.oneCell'=true) (w:World):Calls Tryz.prog 160 #[.agg #[.int .i64 nu,.int .i64 ki,.int .i64 a,.int .i64 b,v],.int .i64 d] w fun e w'=>e=.returned (.bool (decide (a≤d∧d<b)))∧Below w.heap.size w w':=by
 go_enter Tryz.func160,Tryz.ntmps160
 go_wp2
 all_goals
  go_ret
  exact ⟨ret_bool (by first | rfl | exact (Bool.decide_and _ _).symm | (simp [*];done) | (simp;omega)),Bw.out⟩
theorem rzones_any (s:Sc FtrM) (kind day:Int) (w:World) (hR:Rws encFtr w s 60) (hr:∀ r ∈ s.l,ScOk2 w r.s) (hc:∀ r ∈ s.l,IsCan (inRc r.s.l) r.s.l∧Board (inRc r.s.l)) :
  Calls Tryz.prog 103 #[.slice s.a s.n s.c,.int .i64 kind,.int .i64 kind,.int .i64 day] w (NewCS w (takeZ (fun r:FtrM=>r.s.l) (selF kind day) s.l)):=by
 obtain ⟨A,N,C,L⟩:=s
 have HR:=hid hR;have HS:=hid hr;have HBD:=hid hc
 have hn:L.length=N:=hR.len
 have HN:=hid hn
 have hm:N≤60:=hR.few
 clear hR hr hc hn
 dsimp only
 go_enter Tryz.func103,Tryz.ntmps103
 go_wp2
 go_loopw [9,14] (fun v i wr=>SqZ (fun r:FtrM=>r.s.l) (selF kind day) w L N v i wr) (fun _ i _=>N - (intOf i).toNat)
 case atStart=>exact sqZ_nil _ _ _ _ _
 case round =>
  obtain ⟨k,⟨a,n,c,l⟩,hk,rfl,rfl,hcan,hbw,hfr⟩:=hrel
  have FR:=hid hfr;have CAN:=hid hcan;have HB:=hid hbw
  have yb:=hbw.size
  clear hcan hbw hfr
  by_cases hlt:k<N
  ·have hke:k<L.length:=by rw [HN.out];exact hlt
   obtain ⟨b,off,rfl,hbl,hrg⟩:=HR.out.vw.range (k:=5) (fun x _=>encFtr_len x) (by omega) k hke
   have HRG:=hid (rangeAt_below hrg HB.out)
   have HSK:=hid ((HS.out _ (List.getElem_mem hke)).below HB.out)
   have HCK:=hid (HBD.out _ (List.getElem_mem hke))
   have HSU:=hid (takeZ_succ (rc:=fun r:FtrM=>r.s.l) (sel:=(selF kind day)) hke)
   have HBK:=hid (takeZ_board (rc:=fun r:FtrM=>r.s.l) (sel:=(selF kind day)) (fun r hr=>(HBD.out r hr).2) k)
   clear hrg
   obtain ⟨r,hr⟩:∃ r,L[k]=r:=⟨_,rfl⟩
   rw [hr] at HRG HSK HCK HSU
   clear hr hke
   obtain ⟨nu,ki,si,ti,ra,rn,rc,rl⟩:=r
   have HSEL:RowKit.Hid (selF kind day ⟨nu,ki,si,ti,⟨ra,rn,rc,rl⟩⟩=(decide (si≤day∧day<ti) && decide (ki=kind))):=rfl
   dsimp only [encFtr] at HRG HSK HSU
   obtain ⟨sl,hsl⟩:∃ sl,selF kind day ⟨nu,ki,si,ti,⟨ra,rn,rc,rl⟩⟩=sl:=⟨_,rfl⟩
   rw [hsl] at HSU HSEL
   clear hsl
   go_upto_region 5 with (first
    | (refine wpList_load_mid rfl 49 (.tmp 16) rfl b (off+k * 5) rfl [.int .i64 nu,.int .i64 ki,.int .i64 si,.int .i64 ti,.slice ra rn rc] _ HRG.out Tryz.underlying49 rfl ftInfo ?_)
    | (refine st_new rfl 49 (.tmp 11) (.tmp 17) rfl #[.int .i64 nu,.int .i64 ki,.int .i64 si,.int .i64 ti,.slice ra rn rc] _ _ rfl rfl ftInfo rfl (ft_one _ _ _ _ _ _ _) ?_))
   obtain ⟨W1,hW1⟩:∃ W1,wr.alloc (.cells #[.int .i64 nu,.int .i64 ki,.int .i64 si,.int .i64 ti,.slice ra rn rc] 49)=W1:=⟨_,rfl⟩
   have BX:RowKit.Hid (Blk W1 wr.heap.size 49 #[.int .i64 nu,.int .i64 ki,.int .i64 si,.int .i64 ti,.slice ra rn rc]):=by show Blk _ _ _ _;rw [← hW1];exact Blk.new _ _ _
   have BR1:RowKit.Hid (Below wr.heap.size wr W1):=by show Below _ _ _;rw [← hW1];exact Bw.out
   have c1:W1.cell? ⟨wr.heap.size,1,none⟩=some (.int .i64 ki):=BX.out.cell 1
   have HTH:=hid (rthere_any nu ki si ti day (.slice ra rn rc) rfl W1)
   rw [hW1]
   clear hW1
   dsimp only [Act.put]
   go_cut [32] (fun v wx=>v=.bool sl∧Below W1.heap.size W1 wx)
   case first =>
    by_cases hd:si≤day∧day<ti
    ·have d1:=decide_eq_true hd
     rw [d1] at HTH
     rcases Int.lt_trichotomy ki kind with h1 | h1 | h1
     ·have g1:¬ kind≤ki:=by omega
      have HV:RowKit.Hid (sl=false):=HSEL.out.trans (by rw [decide_eq_true hd,decide_eq_false (by omega)];rfl)
      go_wp2_with (first | (refine wpList_load_row rfl 49 (.tmp 11) rfl wr.heap.size rfl _ #[.int .i64 nu,.int .i64 ki,.int .i64 si,.int .i64 ti,.slice ra rn rc] _ _ BX.out Tryz.underlying49 rfl ftInfo ?_) | (go_at_call 160;refine HTH.out.mono ?_;rintro e w2 ⟨rfl,hb2⟩;have q1:=bc1 hb2 c1;have hbb:=hb2))
      go_meet
      case rel=>exact ⟨by rw [HV.out];first | done | rfl | (congr 1;exact decide_eq_false (by omega)) | (congr 1;exact decide_eq_true (by omega)),hbb⟩
     ·subst h1
      have HV:RowKit.Hid (sl=true):=HSEL.out.trans (by rw [decide_eq_true hd];simp)
      go_wp2_with (first | (refine wpList_load_row rfl 49 (.tmp 11) rfl wr.heap.size rfl _ #[.int .i64 nu,.int .i64 ki,.int .i64 si,.int .i64 ti,.slice ra rn rc] _ _ BX.out Tryz.underlying49 rfl ftInfo ?_) | (go_at_call 160;refine HTH.out.mono ?_;rintro e w2 ⟨rfl,hb2⟩;have q1:=bc1 hb2 c1;have hbb:=hb2))
      go_meet
      case rel=>exact ⟨by rw [HV.out];first | done | rfl | (congr 1;exact decide_eq_false (by omega)) | (congr 1;exact decide_eq_true (by omega)),hbb⟩
     ·have g1:kind≤ki:=by omega
      have g2:¬ ki≤kind:=by omega
      have HV:RowKit.Hid (sl=false):=HSEL.out.trans (by rw [decide_eq_true hd,decide_eq_false (by omega)];rfl)
      go_wp2_with (first | (refine wpList_load_row rfl 49 (.tmp 11) rfl wr.heap.size rfl _ #[.int .i64 nu,.int .i64 ki,.int .i64 si,.int .i64 ti,.slice ra rn rc] _ _ BX.out Tryz.underlying49 rfl ftInfo ?_) | (go_at_call 160;refine HTH.out.mono ?_;rintro e w2 ⟨rfl,hb2⟩;have q1:=bc1 hb2 c1;have hbb:=hb2))
      go_meet
      case rel=>exact ⟨by rw [HV.out];first | done | rfl | (congr 1;exact decide_eq_false (by omega)) | (congr 1;exact decide_eq_true (by omega)),hbb⟩
    ·have d1:=decide_eq_false hd
     rw [d1] at HTH
     have HV:RowKit.Hid (sl=false):=HSEL.out.trans (by rw [decide_eq_false hd];rfl)
     go_wp2_with (first | (refine wpList_load_row rfl 49 (.tmp 11) rfl wr.heap.size rfl _ #[.int .i64 nu,.int .i64 ki,.int .i64 si,.int .i64 ti,.slice ra rn rc] _ _ BX.out Tryz.underlying49 rfl ftInfo ?_) | (go_at_call 160;refine HTH.out.mono ?_;rintro e w2 ⟨rfl,hb2⟩;have q1:=bc1 hb2 c1;have hbb:=hb2))
     go_meet
     case rel=>exact ⟨by rw [HV.out];first | done | rfl | (congr 1;exact decide_eq_false (by omega)) | (congr 1;exact decide_eq_true (by omega)),hbb⟩
   case rest =>
   obtain ⟨rfl,hbc⟩:=hcut
   have BX2:=hid (BX.out.below hbc)
   have BR2:=hid (btr BR1.out hbc)
   have c4:wc.cell? ⟨wr.heap.size,4,none⟩=some (.slice ra rn rc):=BX2.out.cell 4
   clear c1 HTH hbc BX BR1
   cases sl with
   | true =>
    have HK:=hid ((orS (s:=⟨a,n,c,l⟩) (t:=⟨ra,rn,rc,rl⟩) (CAN.out.below BR2.out) ⟨HSK.out.below BR2.out,HCK.out.1⟩ HBK.out HCK.out.2).mono fun e w' z=>z)
    dsimp only at HK
    go_wp2_with (go_at_call 62;refine HK.out.mono ?_;rintro e w2 ⟨⟨a2,n2,c2',l2⟩,rfl,h1,h2,h3,h4⟩;have FR2:=hid h3;have CAN2:=hid h1;have Q2:=hid (btr BR2.out h2);clear h1 h2 h3 h4)
    go_roundw
    case rel=>exact ⟨k+1,⟨a2,n2,c2',l2⟩,by omega,by go_num,rfl,CAN2.out.congr fun x y=>((HSU.out x y).trans ⟨fun h=>h.elim .inl fun h=>.inr h.2,fun h=>h.elim .inl fun h=>.inr ⟨by first | rfl | trivial,h⟩⟩).symm,btr HB.out Q2.out,fun b off e=>by have:=FR2.out b off e;have:=BR2.out.size;omega⟩
    case measure=>simp [intOf];omega
   | false =>
    go_wp2
    go_roundw
    case rel=>exact ⟨k+1,⟨a,n,c,l⟩,by omega,by go_num,rfl,(CAN.out.below BR2.out).congr fun x y=>((HSU.out x y).trans ⟨fun h=>h.elim id fun h=>(by cases h.1),.inl⟩).symm,btr HB.out BR2.out,FR.out⟩
    case measure=>simp [intOf];omega
  ·obtain rfl:k=N:=by omega
   have e:L.take k=L:=List.take_of_length_le (by have:=HN.out;omega)
   rw [e] at CAN
   have hbd:Board (takeZ (fun r:FtrM=>r.s.l) (selF kind day) L):=fun x y ⟨r,hr,_,h2⟩=>(HBD.out r hr).2 x y h2
   have HNN:=hid (can_120 CAN.out.can hbd)
   have HL:=hid CAN.out.ok.1.2.1
   clear hbd e
   go_wp2
   go_ret
   exact ⟨⟨a,n,c,l⟩,rfl,CAN.out,HB.out,FR.out,by have h1:=HNN.out;have h2:=HL.out;dsimp only at h1 h2 ⊢;omega⟩
def Wrt (w:World) (a:Option Addr):Prop:=∀ g off,a=some ⟨g,off,none⟩→off=0∧∃ T cs,Blk w g T cs
theorem wrt_own {w:World} {base n size cap:Nat} {a:Option Addr} {e:TypeId} {xs:List Value} (h:w.ownsRow base e size (.slice a n cap) n xs):Wrt w a:=fun g off ea=>by
 rcases h.2 with ⟨h',_⟩ | ⟨g',cap',cur,hv,hb,hg,_⟩
 ·cases h';cases ea
 ·cases hv;cases ea;exact ⟨rfl,_,_,hg⟩
theorem wrt_nil (w:World):Wrt w none:=fun g off e=>by cases e
theorem Wrt.below {w w':World} {a:Option Addr} (h:Wrt w a) (hb:Below w.heap.size w w'):Wrt w' a:=fun g off e=>by
 obtain ⟨h0,T,cs,k⟩:=h g off e
 exact ⟨h0,T,cs,k.below hb⟩
theorem Wrt.step {w w':World} {b:Nat} {a:Option Addr} (h:Wrt w a) (hs:Steps1 b w w') (hn:∀ g off,a=some ⟨g,off,none⟩→g ≠ b):Wrt w' a:=fun g off e=>by
 obtain ⟨h0,T,cs,k⟩:=h g off e
 exact ⟨h0,T,cs,k.step hs (hn g off e)⟩
end Go.Proofs.YtancajcelmhnkaaGreatDoor
