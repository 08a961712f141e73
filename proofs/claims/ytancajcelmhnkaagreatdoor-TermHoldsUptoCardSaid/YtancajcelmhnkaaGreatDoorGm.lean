/- place.and: where all of some terms hold. -/
import Derived.Test.YtancajcelmhnkaaGreatDoorGl
set_option maxRecDepth 100000
set_option maxHeartbeats 4000000
namespace Go.Proofs.YtancajcelmhnkaaGreatDoor
open Go.RowKit Go.Sort Go.Shelf
set_option linter.unusedVariables false
set_option linter.unusedSimpArgs false
structure SqM where
 y:Sc Rc
 n:Sc Rc
 o:Sc Rc
 p:Pr
def encSq (s:SqM):List Value:=[.slice s.y.a s.y.n s.y.c,.slice s.n.a s.n.n s.n.c,.slice s.o.a s.o.n s.o.c]
theorem encSq_len (s:SqM):(encSq s).length=3:=rfl
structure SqOk (w:World) (E:Env) (s:SqM):Prop where
 y:CanS w s.p.yes s.y
 n:CanS w s.p.no s.n
 o:CanS w (E.rest s.p) s.o
 fine:E.Fine s.p
theorem SqOk.below {w w':World} {E:Env} {s:SqM} (h:SqOk w E s) (hb:Below w.heap.size w w'):SqOk w' E s:=⟨h.y.below hb,h.n.below hb,h.o.below hb,h.fine⟩
def andY (E:Env) (l:List SqM):Sq:=fun x y=>E.R x y∧∀ s ∈ l,s.p.yes x y
def andN (l:List SqM):Sq:=fun x y=>∃ s ∈ l,s.p.no x y
theorem andY_snoc (E:Env) (l:List SqM) (s:SqM) (x y:Int):(andY E l x y∧s.p.yes x y)↔andY E (l++[s]) x y:=by
 unfold andY
 constructor
 ·rintro ⟨⟨h1,h2⟩,h3⟩
  refine ⟨h1,fun t ht=>?_⟩
  rcases List.mem_append.1 ht with ht | ht
  ·exact h2 t ht
  ·rw [List.mem_singleton.1 ht];exact h3
 ·rintro ⟨h1,h2⟩
  exact ⟨⟨h1,fun t ht=>h2 t (List.mem_append_left _ ht)⟩,h2 s (List.mem_append_right _ List.mem_cons_self)⟩
theorem andN_snoc (l:List SqM) (s:SqM) (x y:Int):(andN l x y∨s.p.no x y)↔andN (l++[s]) x y:=by
 unfold andN
 constructor
 ·rintro (⟨t,ht,h⟩ | h)
  ·exact ⟨t,List.mem_append_left _ ht,h⟩
  ·exact ⟨s,List.mem_append_right _ List.mem_cons_self,h⟩
 ·rintro ⟨t,ht,h⟩
  rcases List.mem_append.1 ht with ht | ht
  ·exact .inl ⟨t,ht,h⟩
  ·rw [List.mem_singleton.1 ht] at h;exact .inr h
theorem and_pr (E:Env) (l:List SqM):(⟨andY E l,andN l⟩:Pr)=E.and (l.map SqM.p):=by
 unfold Env.and andY andN
 congr 1
 ·funext x y
  exact propext ⟨fun h=>⟨h.1,fun p hp=>by obtain ⟨s,hs,rfl⟩:=List.mem_map.1 hp;exact h.2 s hs⟩,fun h=>⟨h.1,fun s hs=>h.2 _ (List.mem_map.2 ⟨s,hs,rfl⟩)⟩⟩
 ·funext x y
  exact propext ⟨fun ⟨s,hs,h⟩=>⟨_,List.mem_map.2 ⟨s,hs,rfl⟩,h⟩,fun ⟨p,hp,h⟩=>by obtain ⟨s,hs,rfl⟩:=List.mem_map.1 hp;exact ⟨s,hs,h⟩⟩
def AndI (p:PlM) (W0:World) (l:List SqM) (vy vn i:Value) (wr:World):Prop :=
 ∃ (k:Nat) (y n:Sc Rc),k≤l.length∧i=.int .i64 k∧vy=.slice y.a y.n y.c∧vn=.slice n.a n.n n.c∧CanS wr (andY p.env (l.take k)) y∧CanS wr (andN (l.take k)) n∧Below W0.heap.size W0 wr
theorem and_any (p:PlM) (a:Option Addr) (n c:Nat) (l:List SqM) (w:World) (h:PlOk w p) (hV:Vw w a (cellsOf encSq l)) (hn:l.length=n) (hm:n≤1000) (hl:∀ s ∈ l,SqOk w p.env s) :
  Calls Tryz.prog 98 #[.agg p.cells.toArray,.slice a n c] w (SqP w p.env (p.env.and (l.map SqM.p))):=by
 rw [← and_pr]
 obtain ⟨W,hW⟩:∃ W,(w.alloc (.cells p.cells.toArray 98)).alloc (.cells #[.slice none 0 0,.slice none 0 0,.slice none 0 0] 100)=W:=⟨_,rfl⟩
 have BP:RowKit.Hid (Blk W w.heap.size 98 p.cells.toArray):=by show Blk _ _ _ _;rw [← hW];exact (Blk.new w _ _).alloc _
 have BQ:RowKit.Hid (Blk W (w.heap.size+1) 100 #[.slice none 0 0,.slice none 0 0,.slice none 0 0]):=by show Blk _ _ _ _;rw [← hW];exact Blk.fresh (by simp)
 have BB:RowKit.Hid (Below w.heap.size w W):=by show Below _ _ _;rw [← hW];exact Bw.out
 have c9:W.cell? ⟨w.heap.size,9,none⟩=some (.slice p.rc.a p.rc.n p.rc.c):=BP.out.cell 9
 have H:=hid h;have HV:=hid (hV.below BB.out);have HN:=hid hn;have HL:=hid fun s hs=>(hl s hs).below BB.out
 clear h hV hn hl
 go_enter Tryz.func98,Tryz.ntmps98
 go_wp2
 go_loopw [5,6,13] (fun vy vn i wr=>AndI p W l vy vn i wr) (fun _ _ i _=>n - (intOf i).toNat)
 case atStart=>exact ⟨0,p.rc,nilSc,by omega,rfl,rfl,rfl,⟨H.out.rc.below BB.out,H.out.can.congr fun x y=>⟨fun z=>⟨z,fun s hs=>by cases hs⟩,fun z=>z.1⟩⟩,canS_nil _ (fun x y ⟨s,hs,_⟩=>by cases hs),Below.refl _ _⟩
 case round =>
  obtain ⟨k,y,z,hk,rfl,rfl,rfl,hy,hz,hb⟩:=hrel
  have HY:=hid hy;have HZ:=hid hz;have HB:=hid hb
  obtain ⟨ya,yn,yc,yl⟩:=y
  obtain ⟨na,nn,nc,nl⟩:=z
  dsimp only
  clear hy hz hb
  by_cases hlt:k<n
  ·have hke:k<l.length:=by rw [HN.out];exact hlt
   obtain ⟨b,off,rfl,hbl,hrg⟩:=HV.out.range (k:=3) (fun x _=>encSq_len x) (by omega) k hke
   have HRG:=hid (rangeAt_below hrg HB.out)
   have HSK:=hid ((HL.out _ (List.getElem_mem hke)).below HB.out)
   have hty:=andY_snoc p.env (l.take k) l[k]
   have htn:=andN_snoc (l.take k) l[k]
   rw [← List.take_succ_eq_append_getElem hke] at hty htn
   clear hrg
   obtain ⟨s,hs⟩:∃ s,l[k]=s:=⟨_,rfl⟩
   rw [hs] at HRG HSK hty htn
   clear hs
   obtain ⟨⟨sa,sn,sc,sl'⟩,⟨ta,tn,tc,tl⟩,⟨ua,un,uc,ul⟩,q⟩:=s
   dsimp only [encSq] at HRG
   have r0:=HRG.out 0 _ rfl
   have r1:=HRG.out 1 _ rfl
   have r2:=HRG.out 2 _ rfl
   simp only [Nat.add_zero] at r0
   have CH1:=hid fun (W':World) (hW':Below wr.heap.size wr W') =>
    chooseS ya yn yc yl sa sn sc sl' _ en_both fBoth _ _ (andY p.env (l.take (k+1))) p.env.R W' (HY.out.ok.below hW') (HSK.out.y.ok.below hW') HY.out.can HSK.out.y.can (ch_both _) rfl (fun x y=>(both_iff HY.out.can HSK.out.y.can x y).trans (hty x y)) (fun x y q=>q.1) H.out.board
   have CH2:=hid fun (W':World) (hW':Below wr.heap.size wr W') =>
    chooseS na nn nc nl ta tn tc tl _ en_either fEither _ _ (andN (l.take (k+1))) p.env.R W' (HZ.out.ok.below hW') (HSK.out.n.ok.below hW') HZ.out.can HSK.out.n.can (ch_either _) rfl (fun x y=>(either_iff HZ.out.can HSK.out.n.can x y).trans (htn x y)) (fun x y ⟨s,hs,q⟩=>((HL.out s (List.mem_of_mem_take hs)).fine.no x y q)) H.out.board
   clear hty htn
   obtain ⟨W1,hW1⟩:∃ W1,wr.alloc (.cells #[.slice sa sn sc,.slice ta tn tc,.slice ua un uc] 100)=W1:=⟨_,rfl⟩
   have z0:W1.cell? ⟨wr.heap.size,0,none⟩=some (.slice sa sn sc):=by rw [← hW1];exact (Blk.new wr _ _).cell 0
   have z1:W1.cell? ⟨wr.heap.size,1,none⟩=some (.slice ta tn tc):=by rw [← hW1];exact (Blk.new wr _ _).cell 1
   have hq1:Below wr.heap.size wr W1:=by rw [← hW1];exact Bw.out
   go_wp2_with (first
    | (refine wpList_load_mid rfl 100 (.tmp 15) rfl b (off+k * 3) rfl [.slice sa sn sc,.slice ta tn tc,.slice ua un uc] _ HRG.out Tryz.underlying100 rfl sqInfo ?_)
    | (refine st_new rfl 100 (.tmp 8) (.tmp 16) rfl #[.slice sa sn sc,.slice ta tn tc,.slice ua un uc] _ _ rfl rfl sqInfo rfl (sq_one _ _ _ rfl rfl rfl) ?_))
   rw [hW1]
   clear hW1 r0 r1 r2
   go_region_held3 (fun w'=>w'.cell? ⟨wr.heap.size,0,none⟩=some (.slice sa sn sc)∧w'.cell? ⟨wr.heap.size,1,none⟩=some (.slice ta tn tc)) (first | exact ⟨z0,z1⟩ | exact ⟨y0,y1⟩ | exact ⟨x0,x1⟩ | simp [go_sem, *])
    (first | (go_at_call 145;first
     | ((with_reducible refine (CH1.out _ (by (repeat (with_reducible first | assumption | exact Below.refl _ _ | refine bdr ?_ | refine bdn ?_ _ | refine bal ?_ _)))).mono ?_);rintro e w3 ⟨a3,m3,c3,l3,rfl,s3,i3,hb3,-⟩;have hq3:Below wr.heap.size wr w3:=btr (by (repeat (with_reducible first | assumption | exact Below.refl _ _ | refine bdr ?_ | refine bdn ?_ _ | refine bal ?_ _))) hb3;have y0:=bc1 (btr Bw.out hb3) z0;have y1:=bc1 (btr Bw.out hb3) z1;have S3:=hid (CanS.mk s3 i3);clear s3 i3)
     | ((with_reducible refine (CH2.out _ (by (repeat (with_reducible first | assumption | exact Below.refl _ _ | refine bdr ?_ | refine bdn ?_ _ | refine bal ?_ _)))).mono ?_);rintro e w4 ⟨a4,m4,c4,l4,rfl,s4,i4,hb4,-⟩;have hq4:Below wr.heap.size wr w4:=btr (by (repeat (with_reducible first | assumption | exact Below.refl _ _ | refine bdr ?_ | refine bdn ?_ _ | refine bal ?_ _))) hb4;have S3':=hid (S3.out.below (btr Bw.out hb4));have x0:=bc1 (btr Bw.out hb4) y0;have x1:=bc1 (btr Bw.out hb4) y1;have S4:=hid (CanS.mk s4 i4);clear s4 i4)))
   go_wp2
   go_roundw
   case rel=>exact ⟨k+1,⟨a3,m3,c3,l3⟩,⟨a4,m4,c4,l4⟩,by omega,by go_num,rfl,rfl,S3'.out,S4.out,btr HB.out hq4⟩
   case measure=>simp [intOf];omega
  ·have hkn:k=l.length:=by have:=HN.out;omega
   have HYE:RowKit.Hid (CanS wr (andY p.env l) ⟨ya,yn,yc,yl⟩):=by have:=HY.out;rw [hkn,List.take_length] at this;exact this
   have HZE:RowKit.Hid (CanS wr (andN l) ⟨na,nn,nc,nl⟩):=by have:=HZ.out;rw [hkn,List.take_length] at this;exact this
   have RS:RowKit.Hid (Calls Tryz.prog 148 #[.agg p.cells.toArray,.slice ya yn yc,.slice na nn nc] wr (RestP wr p.env ya yn yc na nn nc (andY p.env l) (andN l))) :=
    rest_any p ya yn yc yl na nn nc nl _ _ wr (H.out.below (btr BB.out HB.out)) HYE.out.ok HYE.out.can HZE.out.ok HZE.out.can
   clear hkn
   go_wp2_with (first
    | (refine wpList_load_row rfl 98 (.tmp 2) rfl w.heap.size rfl _ p.cells.toArray _ _ (BP.out.below HB.out) Tryz.underlying98 rfl plInfo ?_)
    | (go_at_call 148;refine RS.out.mono ?_;rintro e w1 ⟨ao,no,co,lo,rfl,so,io,hb1,hio⟩;have HB1:=hid hb1;have SO:=hid so;have IQ:=hid io)
    | (refine wpList_store_row rfl 100 (.tmp 4) (.tmp 29) rfl (w.heap.size+1) #[.slice ya yn yc,.slice na nn nc,.slice ao no co] rfl rfl _ _ (BQ.out.below (btr HB.out HB1.out)) sqInfo rfl (sq_one _ _ _ rfl rfl rfl) ?_))
   have BR:=BQ.out.below (btr HB.out HB1.out)
   have y3:=BQ.out.lt
   refine bodyPost_ret (results_cell_row rfl _ _ _ _ _ _ _ rfl (setRow_heap w1 (w.heap.size+1) _ #[.slice ya yn yc,.slice na nn nc,.slice ao no co] _ _ BR) Tryz.underlying100 rfl sqInfo) rfl ?_
   exact sqP_put (W:=W) BR (p:=⟨andY p.env l,andN l⟩) (y:=⟨ya,yn,yc,yl⟩) (n:=⟨na,nn,nc,nl⟩) (o:=⟨ao,no,co,lo⟩) (HYE.out.below HB1.out) (HZE.out.below HB1.out) ⟨SO.out,IQ.out⟩ (btr (btr BB.out HB.out) HB1.out) (by omega)
inductive TmM where
 | mk (op num more:Int) (a:Option Addr) (n c:Nat) (kids:List TmM):TmM
mutual
def TmM.pl:TmM→Tm
 | .mk op num more _ _ _ kids=>.mk op num more (TmM.pls kids)
def TmM.pls:List TmM→List Tm
 | []=>[]
 | t :: l=>TmM.pl t :: TmM.pls l
end
theorem TmM.pls_map (l:List TmM):TmM.pls l=l.map TmM.pl:=by
 induction l with
 | nil=>rw [TmM.pls];rfl
 | cons t l ih=>rw [TmM.pls,ih];rfl
theorem TmM.pl_mk (op num more:Int) (a:Option Addr) (n c:Nat) (kids:List TmM):TmM.pl (.mk op num more a n c kids)=.mk op num more (kids.map TmM.pl):=by rw [TmM.pl,TmM.pls_map]
theorem TmM.ind {P:TmM→Prop} (h:∀ op num more a n c kids,(∀ k ∈ kids,P k)→P (.mk op num more a n c kids)) (t:TmM):P t :=
 TmM.rec (motive_1:=P) (motive_2:=fun l=>∀ k ∈ l,P k) (fun op num more a n c kids ih=>h op num more a n c kids ih) (fun k hk=>by cases hk) (fun a l h1 h2 k hk=>by
  rcases List.mem_cons.1 hk with rfl | hk
  ·exact h1
  ·exact h2 k hk) t
def encTm:TmM→List Value
 | .mk op num more a n c _=>[.int .i64 op,.int .i64 num,.int .i64 more,.slice a n c]
theorem encTm_len (t:TmM):(encTm t).length=4:=by cases t;rfl
inductive TmOk (w:World):TmM→Prop
 | mk (op num more:Int) (a:Option Addr) (n c:Nat) (kids:List TmM):Vw w a (cellsOf encTm kids)→kids.length=n→n≤c→c≤maxLen→(a=none→n=0)→(∀ k ∈ kids,TmOk w k)→TmOk w (.mk op num more a n c kids)
section
variable {w w':World} {op num more:Int} {a:Option Addr} {n c:Nat} {kids:List TmM}
theorem TmOk.vw (h:TmOk w (.mk op num more a n c kids)):Vw w a (cellsOf encTm kids):=by cases h;assumption
theorem TmOk.len (h:TmOk w (.mk op num more a n c kids)):kids.length=n:=by cases h;assumption
theorem TmOk.few (h:TmOk w (.mk op num more a n c kids)):n≤9223372036854775807:=by cases h;unfold maxLen at *;omega
theorem TmOk.cap (h:TmOk w (.mk op num more a n c kids)):n≤c∧c≤maxLen:=by cases h;exact ⟨by assumption,by assumption⟩
theorem TmOk.nil (h:TmOk w (.mk op num more a n c kids)):a=none→n=0:=by cases h;assumption
theorem TmOk.kid (h:TmOk w (.mk op num more a n c kids)) {k:TmM} (hk:k ∈ kids):TmOk w k:=by cases h with | mk _ _ _ _ _ _ _ _ _ _ _ _ h=>exact h k hk
end
theorem TmOk.beh {w w':World} {t:TmM} (hb:Below w.heap.size w w'):TmOk w t→TmOk w' t:=by
 induction t using TmM.ind with
 | h op num more a n c kids ih =>
  intro h
  exact .mk _ _ _ _ _ _ _ (h.vw.below hb) h.len h.cap.1 h.cap.2 h.nil fun k hk=>ih k hk (h.kid hk)
theorem tmInfo:(Tryz.prog.info? 24).map (·.size)=some 4:=by kernel_rfl
theorem Tm.sizes_snoc (l:List Tm) (t:Tm):Tm.sizes (l++[t])=Tm.sizes l+t.size:=by
 induction l with
 | nil=>simp [Tm.sizes]
 | cons a l ih=>rw [List.cons_append,Tm.sizes,Tm.sizes,ih];omega
theorem Tm.size_pos (t:Tm):1≤t.size:=by cases t;rw [Tm.size];omega
theorem Tm.sizes_take_le (l:List Tm) (k:Nat):Tm.sizes (l.take k)≤Tm.sizes l:=by
 induction l generalizing k with
 | nil=>simp
 | cons a l ih =>
  cases k with
  | zero=>simp [Tm.sizes]
  | succ k=>rw [List.take_succ_cons,Tm.sizes,Tm.sizes];have:=ih k;omega
theorem Tm.sizes_len (l:List Tm):l.length≤Tm.sizes l:=by
 induction l with
 | nil=>simp
 | cons a l ih=>rw [Tm.sizes,List.length_cons];have:=a.size_pos;omega
theorem Tm.sizes_mem {l:List Tm} {t:Tm} (h:t ∈ l):t.size≤Tm.sizes l:=by
 induction l with
 | nil=>cases h
 | cons a l ih =>
  rw [Tm.sizes]
  rcases List.mem_cons.1 h with rfl | h
  ·omega
  ·have:=ih h;omega
theorem TmOk.at_ {w:World} {op num more:Int} {a:Option Addr} {n c:Nat} {kids:List TmM} (h:TmOk w (.mk op num more a n c kids)) {k:Nat} (hk:k<kids.length) :
  ∃ b off,a=some ⟨b,off,none⟩∧b<w.heap.size∧w.rangeAt b (off+k * 4) (encTm kids[k]):=h.vw.range (fun x _=>encTm_len x) (by omega) k hk
theorem count_any (t:TmM):∀ (m:Nat) (w:World),TmOk w t→m≤1000 →
  Calls Tryz.prog 77 #[.agg (encTm t).toArray,.int .i64 m] w fun e w'=>e=.returned (.int .i64 (min t.pl.size (m+1):Nat))∧Below w.heap.size w w':=by
 induction t using TmM.ind with
 | h op num more a n c kids ih =>
  intro m w h hm
  rw [TmM.pl_mk,Tm.size]
  show Calls Tryz.prog _ #[.agg #[.int .i64 op,.int .i64 num,.int .i64 more,.slice a n c],.int .i64 m] w _
  have H:=hid h;have IH:=hid ih
  have HN:=hid h.len
  have hc:=h.few
  clear h ih
  go_enter Tryz.func77,Tryz.ntmps77
  go_wp2
  go_loopw [5,11] (fun s i wr=>∃ k:Nat,k≤n∧i=.int .i64 k∧s=.int .i64 (min (1+Tm.sizes ((kids.map TmM.pl).take k)) (m+1):Nat)∧Below w.heap.size w wr) (fun _ i _=>n - (intOf i).toNat)
  case atStart=>exact ⟨0,Nat.zero_le _,rfl,by simp [Tm.sizes],Bw.out⟩
  case round =>
   obtain ⟨k,hk,rfl,rfl,hb⟩:=hrel
   have HB:=hid hb
   clear hb
   by_cases hlt:k<n
   ·have hke:k<kids.length:=by rw [HN.out];exact hlt
    obtain ⟨b,off,rfl,hbl,hrg⟩:=H.out.at_ hke
    have HRG:=hid (rangeAt_below hrg HB.out)
    have HSZ:RowKit.Hid (Tm.sizes ((kids.map TmM.pl).take (k+1))=Tm.sizes ((kids.map TmM.pl).take k)+kids[k].pl.size):=by
     show _=_
     have hkm:k<(kids.map TmM.pl).length:=by rw [List.length_map];exact hke
     rw [List.take_succ_eq_append_getElem hkm,Tm.sizes_snoc,List.getElem_map]
    have HOK:=hid ((H.out.kid (List.getElem_mem hke)).beh HB.out)
    have HIH:=hid (IH.out _ (List.getElem_mem hke))
    clear hrg
    obtain ⟨kt,hkt⟩:∃ kt,kids[k]=kt:=⟨_,rfl⟩
    rw [hkt] at HRG HSZ HOK HIH
    clear hkt
    have HTL:=hid (Tm.sizes_take_le (kids.map TmM.pl) k)
    obtain ⟨sz,hsz⟩:∃ sz,Tm.sizes ((kids.map TmM.pl).take k)=sz:=⟨_,rfl⟩
    have HSZ2:=hid hsz
    rw [hsz] at HSZ HTL ⊢
    clear hsz
    obtain ⟨ks,hks⟩:∃ ks,kt.pl.size=ks:=⟨_,rfl⟩
    rw [hks] at HSZ HIH
    have HKS:RowKit.Hid (1≤ks):=by show 1≤ks;rw [← hks];exact Tm.size_pos _
    clear hks
    obtain ⟨s,hs⟩:∃ s,min (1+sz) (m+1)=s:=⟨_,rfl⟩
    rw [hs]
    have HS:=hid hs
    have s1:1≤s:=by omega
    have s2:s≤m+1:=by omega
    clear hs
    obtain ⟨op',num',more',a',n',c',kids'⟩:=kt
    dsimp only [encTm] at HRG HIH
    have r0:=HRG.out 0 _ rfl
    have r1:=HRG.out 1 _ rfl
    have r2:=HRG.out 2 _ rfl
    have r3:=HRG.out 3 _ rfl
    simp only [Nat.add_zero] at r0
    by_cases hov:s=m+1
    ·have ho:(m:Int)<(s:Int):=by omega
     go_wp2
     go_ret
     refine ⟨ret_int ?_,(by (repeat (with_reducible first | exact HB.out | exact Below.refl _ _ | refine bdr ?_ | refine bdn ?_ _ | refine bal ?_ _)))⟩
     have h1:=HS.out;have h2:=HTL.out
     congr 1
     omega
    ·have ho:¬ (m:Int)<(s:Int):=by omega
     have HCL:RowKit.Hid (∀ W,Below wr.heap.size wr W→Calls Tryz.prog 77 #[.agg #[.int .i64 op',.int .i64 num',.int .i64 more',.slice a' n' c'],.int .i64 ((m:Int) - (s:Int))] W fun e w'=>e=.returned (.int .i64 (min ks (m - s+1):Nat))∧Below W.heap.size W w'):=fun W hW=>by
      have e:((m:Int) - (s:Int))=((m - s:Nat):Int):=by omega
      rw [e]
      exact HIH.out (m - s) W (HOK.out.beh hW) (by omega)
     go_wp2_with (go_at_call 77;refine (HCL.out _ Bw.out).mono ?_;rintro e w2 ⟨rfl,hb2⟩)
     go_roundw
     case rel =>
      refine ⟨k+1,by omega,by go_num,?_,btr (by (repeat (with_reducible first | exact HB.out | exact Below.refl _ _ | refine bdr ?_ | refine bdn ?_ _ | refine bal ?_ _))) hb2⟩
      have h1:=HSZ.out;have h2:=HS.out;have h3:=HKS.out
      rw [h1]
      have e:s+min ks (m - s+1)=min (1+(sz+ks)) (m+1):=by omega
      rw [← e]
      first | go_num | (simp;done)
     case measure=>simp [intOf];omega
   ·have e:(kids.map TmM.pl).take k=kids.map TmM.pl:=List.take_of_length_le (by rw [List.length_map,HN.out];omega)
    rw [e]
    clear e
    go_wp2
    go_ret
    exact ⟨rfl,HB.out⟩
def hole (b:Nat) (w:World):World:={ w with heap:=w.heap.setIfInBounds b (.stringIter ⟨#[]⟩ 0) }
theorem hole_size (b:Nat) (w:World):(hole b w).heap.size=w.heap.size:=by simp [hole]
theorem hole_at {b k:Nat} (w:World) (h:k ≠ b):(hole b w).heap[k]? = w.heap[k]?:=by
 simp only [hole]
 rw [Array.getElem?_setIfInBounds_ne (Ne.symm h)]
theorem hole_self {b:Nat} {w:World} (h:b<w.heap.size):(hole b w).heap[b]? = some (.stringIter ⟨#[]⟩ 0):=by
 simp [hole,h]
theorem hole_steps {b:Nat} {w w':World} (h:Steps1 b w w'):Below (hole b w).heap.size (hole b w) (hole b w'):=by
 refine ⟨h.grown.os,h.grown.tape,h.grown.output,by rw [hole_size,hole_size];exact h.size,fun k hk=>?_⟩
 rw [hole_size] at hk
 by_cases e:k=b
 ·subst e
  rw [hole_self hk,hole_self (Nat.lt_of_lt_of_le hk h.size)]
 ·rw [hole_at _ e,hole_at _ e]
  exact h.grown.block k hk (by simpa using e)
theorem hole_below {b:Nat} {w w':World} (h:Below w.heap.size w w') (hb:b<w.heap.size):Below (hole b w).heap.size (hole b w) (hole b w'):=by
 refine ⟨h.os,h.tape,h.output,by rw [hole_size,hole_size];exact h.size,fun k hk=>?_⟩
 rw [hole_size] at hk
 by_cases e:k=b
 ·subst e
  rw [hole_self hk,hole_self (Nat.lt_of_lt_of_le hk h.size)]
 ·rw [hole_at _ e,hole_at _ e]
  exact h.block k hk
theorem hole_out {b:Nat} {w:World} (h:w.heap.size≤b):hole b w=w:=by
 unfold hole
 have:w.heap.setIfInBounds b (.stringIter ⟨#[]⟩ 0)=w.heap:=by
  apply Array.ext_getElem?
  intro i
  by_cases e:b=i
  ·subst e
   rw [Array.getElem?_eq_none (by simpa using h),Array.getElem?_eq_none h]
  ·rw [Array.getElem?_setIfInBounds_ne e]
 rw [this]
theorem hole_no {b off:Nat} (w:World):(hole b w).cell? ⟨b,off,none⟩=none:=by
 by_cases h:b<w.heap.size
 ·simp [World.cell?,hole_self h]
 ·rw [hole_out (by omega)]
  simp [World.cell?,Array.getElem?_eq_none (show w.heap.size≤b by omega)]
theorem hole_cell {b c off:Nat} {v:Value} {w:World} (h:(hole b w).cell? ⟨c,off,none⟩=some v):c ≠ b∧w.cell? ⟨c,off,none⟩=some v:=by
 by_cases e:c=b
 ·subst e;rw [hole_no] at h;cases h
 ·exact ⟨e,(World.cell?_of_block (w:=hole b w) (a:=⟨c,off,none⟩) (hole_at w e).symm).trans h⟩
theorem cell_hole {b c off:Nat} {v:Value} {w:World} (h:w.cell? ⟨c,off,none⟩=some v) (e:c ≠ b):(hole b w).cell? ⟨c,off,none⟩=some v :=
 (World.cell?_of_block (w:=w) (a:=⟨c,off,none⟩) (hole_at w e)).trans h
theorem Blk.fill {b g:Nat} {t:TypeId} {cs:Array Value} {w:World} (h:Blk (hole b w) g t cs):Blk w g t cs:=by
 by_cases e:g=b
 ·subst e
  have hl:=h.lt
  rw [hole_size] at hl
  unfold Blk at h
  rw [hole_self hl] at h
  cases h
 ·exact (hole_at w e).symm.trans h
theorem Blk.holed {b g:Nat} {t:TypeId} {cs:Array Value} {w:World} (h:Blk w g t cs) (e:g ≠ b):Blk (hole b w) g t cs:=(hole_at w e).trans h
theorem Vw.fill {b:Nat} {a:Option Addr} {xs:List Value} {w:World} (h:Vw (hole b w) a xs):Vw w a xs:=fun i v hi=>by
 obtain ⟨c,off,e,hc⟩:=h i v hi
 exact ⟨c,off,e,(hole_cell hc).2⟩
theorem Vw.holed {b:Nat} {a:Option Addr} {xs:List Value} {w:World} (h:Vw w a xs) (hne:∀ c off,a=some ⟨c,off,none⟩→c ≠ b):Vw (hole b w) a xs:=fun i v hi=>by
 obtain ⟨c,off,e,hc⟩:=h i v hi
 exact ⟨c,off,e,cell_hole hc (hne c off e)⟩
theorem own_hole {b base n size:Nat} {v:Value} {e:TypeId} {xs:List Value} {w:World} (h:w.ownsRow base e size v n xs) (hb:b<base):(hole b w).ownsRow base e size v n xs:=by
 refine ⟨h.1,?_⟩
 rcases h.2 with h | ⟨g,cap,cur,hv,hg,hh,r⟩
 ·exact .inl h
 ·exact .inr ⟨g,cap,cur,hv,hg,(hole_at w (by omega)).trans hh,r⟩
theorem ScOk.fill {b:Nat} {s:Sc Rc} {w:World} (h:ScOk (hole b w) s):ScOk w s:=⟨h.1.fill,h.2⟩
theorem TyS.fill {b:Nat} {s:Sc Rc} {w:World} (h:TyS (hole b w) s):TyS w s:=fun hl=>by
 obtain ⟨c,off,T,cs,h1,h2,h3⟩:=h hl
 exact ⟨c,off,T,cs,h1,h2.fill,h3⟩
theorem ScOk2.fill {b:Nat} {s:Sc Rc} {w:World} (h:ScOk2 (hole b w) s):ScOk2 w s:=⟨h.1.fill,h.2.1,h.2.2.fill⟩
theorem ScOk2.holed {b:Nat} {s:Sc Rc} {w:World} (h:ScOk2 w s) (hne:∀ c off,s.a=some ⟨c,off,none⟩→c ≠ b):ScOk2 (hole b w) s :=
 ⟨⟨h.1.1.holed hne,h.1.2⟩,h.2.1,fun hl=>by
  obtain ⟨c,off,T,cs,h1,h2,h3⟩:=h.2.2 hl
  exact ⟨c,off,T,cs,h1,h2.holed (hne c off h1),h3⟩⟩
theorem CanS.fill {b:Nat} {S:Sq} {s:Sc Rc} {w:World} (h:CanS (hole b w) S s):CanS w S s:=⟨h.ok.fill,h.can⟩
theorem Rws.fill {b:Nat} {α:Type} {enc:α→List Value} {s:Sc α} {m:Nat} {w:World} (h:Rws enc (hole b w) s m):Rws enc w s m:=⟨h.vw.fill,h.len,h.few,h.nil⟩
theorem TmOk.fill {b:Nat} {w:World} {t:TmM}:TmOk (hole b w) t→TmOk w t:=by
 induction t using TmM.ind with
 | h op num more a n c kids ih =>
  intro h
  exact .mk _ _ _ _ _ _ _ h.vw.fill h.len h.cap.1 h.cap.2 h.nil fun k hk=>ih k hk (h.kid hk)
theorem PlOk.fill {b:Nat} {w:World} {p:PlM} (h:PlOk (hole b w) p):PlOk w p :=
 ⟨h.cr.fill,h.hi.fill,h.zo.fill,h.rc.fill,h.can,h.board,h.year,h.crop,h.hok,h.zok,fun r hr=>⟨(h.his r hr).1.fill,(h.his r hr).2⟩,fun r hr=>(h.zos r hr).fill⟩
def lims (op:Int):Int × Int × Bool:=if op=2 then (0,39,true) else if op=3 then (0,40,true) else if op=4 then (1,16,true) else if op=5 then (0,15,true) else if op=6 then (2,10,true) else if op=7 then (1,10,true) else if op=8 then (1,10,true) else (0,0,false)
def kidl (op:Int):Int × Int:=if op=9 then (1,40) else if op=10 then (1,40) else if op=11 then (1,1) else (0,0)
theorem limits_any (op:Int) (w:World):Calls Tryz.prog 118 #[.int .i64 op] w fun e w'=>e=.returned (.tuple #[.int .i64 (lims op).1,.int .i64 (lims op).2.1,.bool (lims op).2.2])∧Below w.heap.size w w':=by
 unfold lims
 by_cases h2:op=2
 ·subst h2;go_enter Tryz.func118,Tryz.ntmps118;go_wp2;go_ret3;exact ⟨rfl,Bw.out⟩
 have b2:(op == 2)=false:=by simpa using h2
 by_cases h3:op=3
 ·subst h3;go_enter Tryz.func118,Tryz.ntmps118;go_wp2;go_ret3;exact ⟨rfl,Bw.out⟩
 have b3:(op == 3)=false:=by simpa using h3
 by_cases h4:op=4
 ·subst h4;go_enter Tryz.func118,Tryz.ntmps118;go_wp2;go_ret3;exact ⟨rfl,Bw.out⟩
 have b4:(op == 4)=false:=by simpa using h4
 by_cases h5:op=5
 ·subst h5;go_enter Tryz.func118,Tryz.ntmps118;go_wp2;go_ret3;exact ⟨rfl,Bw.out⟩
 have b5:(op == 5)=false:=by simpa using h5
 by_cases h6:op=6
 ·subst h6;go_enter Tryz.func118,Tryz.ntmps118;go_wp2;go_ret3;exact ⟨rfl,Bw.out⟩
 have b6:(op == 6)=false:=by simpa using h6
 by_cases h7:op=7
 ·subst h7;go_enter Tryz.func118,Tryz.ntmps118;go_wp2;go_ret3;exact ⟨rfl,Bw.out⟩
 have b7:(op == 7)=false:=by simpa using h7
 by_cases h8:op=8
 ·subst h8;go_enter Tryz.func118,Tryz.ntmps118;go_wp2;go_ret3;exact ⟨rfl,Bw.out⟩
 have b8:(op == 8)=false:=by simpa using h8
 rw [if_neg h2,if_neg h3,if_neg h4,if_neg h5,if_neg h6,if_neg h7,if_neg h8]
 clear h2 h3 h4 h5 h6 h7 h8
 go_enter Tryz.func118,Tryz.ntmps118;go_wp2;go_ret3;exact ⟨rfl,Bw.out⟩
theorem kids_any (op:Int) (w:World):Calls Tryz.prog 119 #[.int .i64 op] w fun e w'=>e=.returned (.tuple #[.int .i64 (kidl op).1,.int .i64 (kidl op).2])∧Below w.heap.size w w':=by
 unfold kidl
 by_cases h2:op=9
 ·subst h2;go_enter Tryz.func119,Tryz.ntmps119;go_wp2;go_ret2;exact ⟨rfl,Bw.out⟩
 have b2:(op == 9)=false:=by simpa using h2
 by_cases h3:op=10
 ·subst h3;go_enter Tryz.func119,Tryz.ntmps119;go_wp2;go_ret2;exact ⟨rfl,Bw.out⟩
 have b3:(op == 10)=false:=by simpa using h3
 by_cases h4:op=11
 ·subst h4;go_enter Tryz.func119,Tryz.ntmps119;go_wp2;go_ret2;exact ⟨rfl,Bw.out⟩
 have b4:(op == 11)=false:=by simpa using h4
 rw [if_neg h2,if_neg h3,if_neg h4]
 clear h2 h3 h4
 go_enter Tryz.func119,Tryz.ntmps119;go_wp2;go_ret2;exact ⟨rfl,Bw.out⟩
def ones (k:Nat):Nat:=k % 2+k / 2 % 2+k / 4 % 2+k / 8 % 2+k / 16 % 2
theorem ones64_any (k:Nat) (h:1≤k∧k≤16) (w:World):Calls Tryz.prog 197 #[.int .u64 k] w fun e w'=>e=.returned (.int .i64 (ones k))∧Below w.heap.size w w':=by
 obtain rfl | rfl | rfl | rfl | rfl | rfl | rfl | rfl | rfl | rfl | rfl | rfl | rfl | rfl | rfl | rfl:k=1∨k=2∨k=3∨k=4∨k=5∨k=6∨k=7∨k=8∨k=9∨k=10∨k=11∨k=12∨k=13∨k=14∨k=15∨k=16:=by omega
 all_goals
  go_enter Tryz.func197,Tryz.ntmps197
  go_wp2
  go_ret
  exact ⟨by kernel_rfl,Bw.out⟩
theorem ones_any (k:Nat) (h:1≤k∧k≤16) (w:World):Calls Tryz.prog 167 #[.int .u64 k] w fun e w'=>e=.returned (.int .i64 (ones k))∧Below w.heap.size w w':=by
 go_enter Tryz.func167,Tryz.ntmps167
 go_wp2_with (go_at_call 197;refine (ones64_any k h _).mono ?_;rintro e w1 ⟨rfl,hb1⟩)
 go_ret
 exact ⟨rfl,hb1⟩
theorem ones_one:∀ k:Fin 17,decide ((ones k.val:Int)=1)=oneMark k.val:=by decide
theorem single_any (m:Int) (w:World):Calls Tryz.prog 120 #[.int .i64 m] w fun e w'=>e=.returned (.bool (oneMark m))∧Below w.heap.size w w':=by
 by_cases h:1≤m∧m≤16
 ·obtain ⟨k,rfl⟩:∃ k:Nat,m=k:=⟨m.toNat,by omega⟩
  have e:=ones_one ⟨k,by omega⟩
  dsimp only at e
  rw [← e]
  obtain ⟨o,ho⟩:∃ o,(ones k:Int)=o:=⟨_,rfl⟩
  have HC:=hid fun W=>ones_any k (by omega) W
  rw [ho] at HC ⊢
  obtain ⟨h1,h2⟩:=h
  clear e ho
  go_enter Tryz.func120,Tryz.ntmps120
  go_wp2_with (go_at_call 167;refine (HC.out _).mono ?_;rintro e w1 ⟨rfl,hb1⟩)
  go_ret
  exact ⟨ret_bool (by first | rfl | (simp;done)),hb1⟩
 ·have e:oneMark m=false:=by unfold oneMark;exact decide_eq_false (by omega)
  rw [e]
  clear e
  by_cases h1:1≤m
  ·have h2:¬ m≤16:=by omega
   clear h
   go_enter Tryz.func120,Tryz.ntmps120
   go_wp2
   go_ret
   exact ⟨ret_bool (by first | rfl | (simp;omega)),Bw.out⟩
  ·clear h
   go_enter Tryz.func120,Tryz.ntmps120
   go_wp2
   go_ret
   exact ⟨ret_bool (by first | rfl | (simp;omega)),Bw.out⟩
def rightB (t:Tm) (d:Nat):Bool:=t.form && decide (t.depth≤d)
theorem Tm.depths_le (l:List Tm) (d:Nat):decide (Tm.depths l≤d)=l.all fun t=>decide (t.depth≤d):=by
 induction l with
 | nil=>simp [Tm.depths]
 | cons a l ih=>rw [Tm.depths,List.all_cons,← ih,← Bool.decide_and];exact decide_eq_decide.2 (by omega)
theorem rightB_mk (op num more:Int) (kids:List Tm) (d:Nat):rightB (.mk op num more kids) (d+1)=(formB op num more kids.length && kids.all fun k=>rightB k d):=by
 unfold rightB
 rw [Tm.form_mk,Tm.depth,show decide (1+Tm.depths kids≤d+1)=decide (Tm.depths kids≤d) from decide_eq_decide.2 (by omega),Tm.depths_le,Bool.and_assoc]
 congr 1
 induction kids with
 | nil=>rfl
 | cons a l ih =>
  simp only [List.all_cons]
  rw [← ih]
  cases a.form <;> cases decide (a.depth≤d) <;> simp
theorem rightB_zero (t:Tm):rightB t 0=false:=by
 cases t;unfold rightB;rw [Tm.depth];simp
theorem en_right1:Enters 122:=enters_of Tryz.func122 (by kernel_rfl) rfl
theorem any_not {α:Type} (l:List α) (p:α→Bool):(!l.any fun k=>!p k)=l.all p:=by
 induction l with
 | nil=>rfl
 | cons a l ih=>rw [List.any_cons,List.all_cons,← ih];cases p a <;> simp
end Go.Proofs.YtancajcelmhnkaaGreatDoor
