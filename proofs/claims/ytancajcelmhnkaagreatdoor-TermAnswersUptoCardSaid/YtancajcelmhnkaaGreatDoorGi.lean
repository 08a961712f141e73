/- Lines in worlds,in memory;the rectangles of the records of a year. -/
import Derived.Test.YtancajcelmhnkaaGreatDoorGh
import Derived.Laws.CopyOwn
set_option maxRecDepth 100000
set_option maxHeartbeats 4000000
namespace Go.Proofs.YtancajcelmhnkaaGreatDoor
open Go.RowKit Go.Sort Go.Shelf
set_option linter.unusedVariables false
set_option linter.unusedSimpArgs false
structure RcdM where
 year:Int
 crop:Int
 s:Sc Rc
def RcdM.pl (r:RcdM):Rcd:=⟨r.year,r.crop,r.s.l⟩
def encRcd (r:RcdM):List Value:=[.int .i64 r.year,.int .i64 r.crop,.slice r.s.a r.s.n r.s.c]
theorem encRcd_len (r:RcdM):(encRcd r).length=3:=rfl
structure FtrM where
 number:Int
 kind:Int
 since:Int
 till:Int
 s:Sc Rc
def FtrM.pl (r:FtrM):Ftr:=⟨r.number,r.kind,r.since,r.till,r.s.l⟩
def encFtr (r:FtrM):List Value:=[.int .i64 r.number,.int .i64 r.kind,.int .i64 r.since,.int .i64 r.till,.slice r.s.a r.s.n r.s.c]
theorem encFtr_len (r:FtrM):(encFtr r).length=5:=rfl
def encCrp (c:Crp):List Value:=[.string c.name,.int .i64 c.family,.int .i64 c.marks]
theorem encCrp_len (c:Crp):(encCrp c).length=3:=rfl
def TyS (w:World) (s:Sc Rc):Prop:=s.l ≠ []→∃ (b off:Nat) (T:TypeId) (cs:Array Value),s.a=some ⟨b,off,none⟩∧Blk w b T cs∧T ≠ 100
theorem TyS.below {w w':World} {s:Sc Rc} (h:TyS w s) (hb:Below w.heap.size w w'):TyS w' s:=fun hl=>by
 obtain ⟨b,off,T,cs,h1,h2,h3⟩:=h hl
 exact ⟨b,off,T,cs,h1,h2.below hb,h3⟩
theorem tyS_own {w:World} {base n cap size:Nat} {e:TypeId} {a:Option Addr} {xs:List Value} {l:List Rc} {m k:Nat} (h:w.ownsRow base e size (.slice a n cap) n xs) (hl:l ≠ []→0<n) (he:e ≠ 100):TyS w ⟨a,m,k,l⟩:=fun h0=>by
 rcases h.2 with ⟨_,hn⟩ | ⟨g,cap',cur,hv,hb,hg,_⟩
 ·have:=hl h0;omega
 ·cases hv
  exact ⟨g,0,e,cur,rfl,hg,he⟩
def ScOk2 (w:World) (s:Sc Rc):Prop:=ScOk w s∧(s.a=none→s.n=0)∧TyS w s
theorem ScOk2.below {w w':World} {s:Sc Rc} (h:ScOk2 w s) (hb:Below w.heap.size w w'):ScOk2 w' s:=⟨h.1.below hb,h.2.1,h.2.2.below hb⟩
def sl {α:Type} (s:Sc α):Value:=.slice s.a s.n s.c
structure Rws {α:Type} (enc:α→List Value) (w:World) (s:Sc α) (m:Nat):Prop where
 vw:Vw w s.a (cellsOf enc s.l)
 len:s.l.length=s.n
 few:s.n≤m
 nil:s.a=none→s.n=0
theorem Rws.below {α:Type} {enc:α→List Value} {w w':World} {s:Sc α} {m:Nat} (h:Rws enc w s m) (hb:Below w.heap.size w w'):Rws enc w' s m:=⟨h.vw.below hb,h.len,h.few,h.nil⟩
def recsL (l:List RcdM) (year:Int) (ch:Int→Bool):List Rc:=l.flatMap fun r=>if r.year=year∧ch r.crop=true then r.s.l else []
theorem recsL_snoc {l:List RcdM} {k:Nat} (h:k<l.length) (year:Int) (ch:Int→Bool):recsL (l.take (k+1)) year ch=recsL (l.take k) year ch++(if l[k].year=year∧ch l[k].crop=true then l[k].s.l else []):=by
 unfold recsL
 rw [List.take_succ_eq_append_getElem h,List.flatMap_append]
 simp
theorem recsL_len {l:List RcdM} (h:∀ r ∈ l,r.s.l.length≤120) (year:Int) (ch:Int→Bool):(recsL l year ch).length≤l.length * 120:=by
 induction l with
 | nil=>simp [recsL]
 | cons r l ih =>
  have h1:=ih fun s hs=>h s (List.mem_cons_of_mem _ hs)
  have h2:=h r List.mem_cons_self
  have e:recsL (r :: l) year ch=(if r.year=year∧ch r.crop=true then r.s.l else [])++recsL l year ch:=by simp [recsL]
  rw [e,List.length_append,List.length_cons]
  split <;> simp <;> omega
theorem recsL_in {l:List RcdM} {year:Int} {ch:Int→Bool} {x y:Int}:inRc (recsL l year ch) x y↔∃ r ∈ l,r.year=year∧ch r.crop=true∧inRc r.s.l x y:=by
 unfold inRc recsL
 constructor
 ·rintro ⟨q,hq,h⟩
  obtain ⟨r,hr,hq⟩:=List.mem_flatMap.1 hq
  split at hq
  ·rename_i hc;exact ⟨r,hr,hc.1,hc.2,q,hq,h⟩
  ·cases hq
 ·rintro ⟨r,hr,h1,h2,q,hq,h⟩
  exact ⟨q,List.mem_flatMap.2 ⟨r,hr,by rw [if_pos ⟨h1,h2⟩];exact hq⟩,h⟩
def Picks (w:World) (g:Nat) (lb:Array Value) (ok:Int→Prop) (ch:Int→Bool):Prop :=
 ∀ W:World,Below w.heap.size w W→∀ c:Int,ok c→Calls Tryz.prog g (#[.int .i64 c]++lb) W fun e w'=>e=.returned (.bool (ch c))∧Below W.heap.size W w'
theorem Picks.below {w w':World} {g:Nat} {lb:Array Value} {ok:Int→Prop} {ch:Int→Bool} (h:Picks w g lb ok ch) (hb:Below w.heap.size w w'):Picks w' g lb ok ch:=fun W hW=>h W (btr hb hW)
theorem hrects_any (s:Sc RcdM) (year:Int) (g:Nat) (lb:Array Value) (eg:Enters g) (ok:Int→Prop) (ch:Int→Bool) (w:World) (hR:Rws encRcd w s 200) (hr:∀ r ∈ s.l,ScOk2 w r.s∧r.s.n≤120∧ok r.crop) (hp:Picks w g lb ok ch) :
  Calls Tryz.prog 190 #[sl s,.int .i64 year,.func (.func g) #[] lb] w (NewRc w (recsL s.l year ch)):=by
 obtain ⟨a,n,c,l⟩:=s
 have HR:=hid hR;have HS:=hid hr;have HP:=hid hp
 have hn:l.length=n:=hR.len
 have HN:=hid hn
 have hm:n≤200:=hR.few
 have hl:∀ k,(recsL (l.take k) year ch).length≤24000:=fun k=>by
  have:=recsL_len (l:=l.take k) (fun r hr'=>by have:=hr r (List.mem_of_mem_take hr');have h1:=this.1.1.2.1;have h2:=this.2.1;omega) year ch
  rw [List.length_take] at this
  omega
 have HL:=hid hl
 clear hR hr hp hn hl
 unfold Enters at eg
 dsimp only [sl]
 go_enter Tryz.func190,Tryz.ntmps190
 go_wp2
 go_loopw [7,12] (fun v i wr=>RowW w 87 4 n (fun j=>rcCells (recsL (l.take j) year ch)) (fun j=>(recsL (l.take j) year ch).length) v i wr) (fun _ i _=>n - (intOf i).toNat)
 case atStart=>exact ⟨0,Nat.zero_le _,rfl,World.ownsRow_nil _ _ _ _,Below.refl _ _⟩
 case round =>
  obtain ⟨k,hk,rfl,hown,hb⟩:=hrel
  dsimp only at hown
  have hLk:=HL.out k
  obtain ⟨L,hL⟩:∃ L,recsL (l.take k) year ch=L:=⟨_,rfl⟩
  rw [hL] at hown hLk
  have HLL:=hid hL
  clear hL
  obtain ⟨a0,c0,rfl,-,-,-⟩:=own_form hown
  by_cases hlt:k<n
  ·have hke:k<l.length:=by rw [HN.out];exact hlt
   obtain ⟨b,off,rfl,hbl,hrg⟩:=HR.out.vw.range (k:=3) (fun x _=>encRcd_len x) (by omega) k hke
   have HRG:=hid (rangeAt_below hrg hb)
   have HSK:=hid (HS.out _ (List.getElem_mem hke))
   have HSN:=hid (recsL_snoc hke year ch)
   clear hrg
   obtain ⟨r,hr⟩:∃ r,l[k]=r:=⟨_,rfl⟩
   rw [hr] at HRG HSK HSN
   clear hr hke
   obtain ⟨y0,cr,ra,rn,rc,rl⟩:=r
   have HOK:=hid (HSK.out.1.below hb)
   have hrn:rn≤120:=HSK.out.2.1
   have HPK:=hid fun W (hW:Below w.heap.size w W)=>HP.out W hW cr HSK.out.2.2
   have OWN:=hid hown;have HB:=hid hb
   have yb:=hb.size
   clear hown hb
   dsimp only [encRcd] at HRG HSN
   have c0:=HRG.out 0 _ rfl
   have c1:=HRG.out 1 _ rfl
   have c2:=HRG.out 2 _ rfl
   simp only [Nat.add_zero] at c0
   by_cases hy:y0=year
   ·subst hy
    obtain ⟨d,hd⟩:∃ d,ch cr=d:=⟨_,rfl⟩
    have HD:=hid hd
    rw [hd] at HPK
    clear hd
    cases d with
    | true =>
     go_wp2_with (first
      | (go_at_fn g;refine (HPK.out _ (by (repeat (with_reducible first | exact HB.out | exact Below.refl _ _ | refine bdr ?_ | refine bdn ?_ _ | refine bal ?_ _)))).mono ?_;rintro e w4 ⟨rfl,hb4⟩;have z2:w4.cell? ⟨wr.heap.size,2,none⟩=some (.slice ra rn rc):=bc1 hb4 (by simp [go_sem]))
      | (at_builtin;refine app_list elRc rfl _ _ rfl w.heap.size _ L.length (rcCells L) rfl (own_keep OWN.out (btr Bw.out hb4)) ra rn rc (rcCells rl) rfl (HOK.out.1.1.below (btr Bw.out hb4)) HOK.out.2.1 (by rw [cellsOf_length encRc_len];exact congrArg (· * 4) HOK.out.1.2.1) (oneC_cells oneC_rc rl) (by omega) (by have:=hb4.size;simp at this;omega) ?_;intro v2 w2 hown2 hg2 _))
     go_roundw
     case rel =>
      have eL:recsL (l.take (k+1)) y0 ch=L++rl:=by rw [HSN.out,HLL.out,if_pos ⟨by first | trivial | rfl,HD.out⟩]
      refine ⟨k+1,by omega,by go_num,?_,below_app (own_keep OWN.out (btr Bw.out hb4)) (btr HB.out (btr Bw.out hb4)) hg2⟩
      dsimp only
      have hrl:rl.length=rn:=HOK.out.1.2.1
      rw [eL,List.length_append,show rcCells (L++rl)=rcCells L++rcCells rl from cellsOf_append L rl,hrl]
      exact hown2
     case measure=>simp [intOf];omega
    | false =>
     go_wp2_with (go_at_fn g;refine (HPK.out _ (by (repeat (with_reducible first | exact HB.out | exact Below.refl _ _ | refine bdr ?_ | refine bdn ?_ _ | refine bal ?_ _)))).mono ?_;rintro e w4 ⟨rfl,hb4⟩)
     go_roundw
     case rel =>
      have eL:recsL (l.take (k+1)) y0 ch=L:=by rw [HSN.out,HLL.out,if_neg (fun h=>by have:=HD.out;rw [h.2] at this;cases this),List.append_nil]
      refine ⟨k+1,by omega,by go_num,?_,btr HB.out (btr Bw.out hb4)⟩
      dsimp only
      rw [eL]
      exact own_keep OWN.out (btr Bw.out hb4)
     case measure=>simp [intOf];omega
   ·have my:((y0:Int) == year)=false:=by simpa using hy
    have HY:=hid hy
    clear hy
    go_wp2
    go_roundw
    case rel =>
     have eL:recsL (l.take (k+1)) year ch=L:=by rw [HSN.out,HLL.out,if_neg (fun h=>HY.out h.1),List.append_nil]
     refine ⟨k+1,by omega,by go_num,?_,(by (repeat (with_reducible first | exact HB.out | exact Below.refl _ _ | refine bdr ?_ | refine bdn ?_ _ | refine bal ?_ _)))⟩
     dsimp only
     rw [eL]
     exact own_keep OWN.out Bw.out
    case measure=>simp [intOf];omega
  ·have e:=HLL.out
   rw [List.take_of_length_le (by have:=HN.out;omega)] at e
   have HE:=hid e;have OWN:=hid hown;have HB:=hid hb
   clear hown hb e
   go_wp2
   go_ret
   refine ⟨_,rfl,?_,HB.out⟩
   rw [HE.out]
   exact OWN.out
structure PlM where
 year:Int
 day:Int
 parcel:Int
 crop:Int
 schemes:Int
 cr:Sc Crp
 hi:Sc RcdM
 zo:Sc FtrM
 rc:Sc Rc
def PlM.cells (p:PlM):List Value:=[.int .i64 p.year,sl p.cr,sl p.hi,sl p.zo,.int .i64 p.day,.int .i64 p.parcel,sl p.rc,.int .i64 p.crop,.int .i64 p.schemes,sl p.rc]
def PlM.env (p:PlM):Env:=⟨p.rc.l,p.crop,p.year,p.cr.l,p.hi.l.map RcdM.pl,p.zo.l.map FtrM.pl,p.day⟩
structure PlOk (w:World) (p:PlM):Prop where
 cr:Rws encCrp w p.cr 40
 hi:Rws encRcd w p.hi 200
 zo:Rws encFtr w p.zo 60
 rc:ScOk2 w p.rc
 can:IsCan (inRc p.rc.l) p.rc.l
 board:∀ x y,inRc p.rc.l x y→0≤x∧x<300∧0≤y∧y<300
 year:0≤p.year∧p.year≤100
 crop:0≤p.crop∧p.crop<p.cr.n
 hok:HistOk (p.hi.l.map RcdM.pl)
 zok:LayOk (p.zo.l.map FtrM.pl)
 his:∀ r ∈ p.hi.l,ScOk2 w r.s∧0≤r.crop∧r.crop<p.cr.n
 zos:∀ r ∈ p.zo.l,ScOk2 w r.s
theorem PlOk.below {w w':World} {p:PlM} (h:PlOk w p) (hb:Below w.heap.size w w'):PlOk w' p :=
 ⟨h.cr.below hb,h.hi.below hb,h.zo.below hb,h.rc.below hb,h.can,h.board,h.year,h.crop,h.hok,h.zok,fun r hr=>⟨(h.his r hr).1.below hb,(h.his r hr).2⟩,fun r hr=>(h.zos r hr).below hb⟩
theorem PlOk.few {w:World} {p:PlM} (h:PlOk w p) {r:RcdM} (hr:r ∈ p.hi.l):r.s.n≤120:=by
 have h1:=(h.hok.mem (List.mem_map.2 ⟨r,hr,rfl⟩)).valid.1
 have h2:=(h.his r hr).1.1.2.1
 have:(RcdM.pl r).rects=r.s.l:=rfl
 rw [this] at h1
 omega
theorem PlOk.wide {w:World} {p:PlM} (h:PlOk w p) {r:RcdM} (hr:r ∈ p.hi.l):Wide r.s.l:=fun q hq=>by
 have h1:=(h.hok.mem (List.mem_map.2 ⟨r,hr,rfl⟩)).valid.2.1 q hq
 exact h1.2.1
theorem wide_can {S:Sq} {l:List Rc} (h:IsCan S l):Wide l:=fun q hq=>(isCan_pos h q hq).1
theorem new_ok {w w':World} {l:List Rc} {S R:Sq} {v:Value} (hc:IsCan S l) (hS:∀ x y,S x y→R x y) (hR:∀ x y,R x y→0≤x∧x<300∧0≤y∧y<300) (ho:w'.ownsRow w.heap.size 87 4 v l.length (rcCells l)):∃ a c,v=.slice a l.length c∧ScOk2 w' ⟨a,l.length,c,l⟩∧∀ b off,a=some ⟨b,off,none⟩→w.heap.size≤b:=by
 obtain ⟨a,c,rfl,-,-,hf⟩:=own_form ho
 refine ⟨a,c,rfl,⟨⟨vw_of_own ho,rfl,?_⟩,own_nil ho,tyS_own ho (fun h=>List.length_pos_iff.2 h) (by decide)⟩,fun b off e=>?_⟩
 ·have:=(isCan_few hc 300 fun x y h=>hR x y (hS x y h)).1
  show l.length≤100000
  omega
 ·rcases hf with ⟨h,_⟩ | ⟨g,h,h1,_⟩
  ·rw [h] at e;cases e
  ·rw [h] at e;cases e;exact h1
def fBoth (p q:Bool):Bool:=p && q
def fEither (p q:Bool):Bool:=p || q
def fWithout (p q:Bool):Bool:=p && !q
theorem ch_both (w:World):Chooses w 146 #[] fBoth:=fun W _ p q=>by
 show Calls Tryz.prog 146 #[.bool p,.bool q] W _
 cases p <;> cases q <;> (go_enter Tryz.func146,Tryz.ntmps146;go_wp2;go_ret;exact ⟨rfl,Below.refl _ _⟩)
theorem ch_either (w:World):Chooses w 147 #[] fEither:=fun W _ p q=>by
 show Calls Tryz.prog 147 #[.bool p,.bool q] W _
 cases p <;> cases q <;> (go_enter Tryz.func147,Tryz.ntmps147;go_wp2;go_ret;exact ⟨rfl,Below.refl _ _⟩)
theorem ch_without (w:World):Chooses w 187 #[] fWithout:=fun W _ p q=>by
 show Calls Tryz.prog 187 #[.bool p,.bool q] W _
 cases p <;> cases q <;> (go_enter Tryz.func187,Tryz.ntmps187;go_wp2;go_ret;exact ⟨rfl,Below.refl _ _⟩)
theorem en_both:Enters 146:=enters_of Tryz.func146 (by kernel_rfl) rfl
theorem en_either:Enters 147:=enters_of Tryz.func147 (by kernel_rfl) rfl
theorem en_without:Enters 187:=enters_of Tryz.func187 (by kernel_rfl) rfl
theorem NewCan.congr {w:World} {S T:Sq} {e:Ending} {w':World} (h:NewCan w S e w') (k:∀ x y,S x y↔T x y):NewCan w T e w':=by
 obtain ⟨l,h1,h2⟩:=h
 exact ⟨l,h1.congr k,h2⟩
theorem NewCan.base {w w0:World} {S:Sq} {e:Ending} {w':World} (h:NewCan w S e w') (hb:Below w0.heap.size w0 w):NewCan w0 S e w':=by
 obtain ⟨l,h1,h2,v,rfl,h3,h4⟩:=h
 exact ⟨l,h1,h2,v,rfl,own_base h3 hb.size,btr hb h4⟩
theorem recs_env (p:PlM) (n:Int) (ch:Int→Bool) (x y:Int):inRc (recsL p.hi.l (p.year - n) ch) x y↔p.env.recs n ch x y:=by
 rw [recsL_in]
 unfold Env.recs PlM.env
 constructor
 ·rintro ⟨r,hr,h1,h2,h3⟩
  exact ⟨r.pl,List.mem_map.2 ⟨r,hr,rfl⟩,h1,h2,h3⟩
 ·rintro ⟨r,hr,h1,h2,h3⟩
  obtain ⟨s,hs,rfl⟩:=List.mem_map.1 hr
  exact ⟨s,hs,h1,h2,h3⟩
theorem known_any (p:PlM) (n:Int) (g:Nat) (lb:Array Value) (eg:Enters g) (ok:Int→Prop) (ch:Int→Bool) (w:World) (h:PlOk w p) (hn:0≤n∧n≤1000) (hp:Picks w g lb ok ch) (hok:∀ c:Int,0≤c→c<p.cr.n→ok c) :
  Calls Tryz.prog 155 #[.agg p.cells.toArray,.int .i64 n,.func (.func g) #[] lb] w (NewCan w (p.env.known n ch)):=by
 have RC:RowKit.Hid (∀ W,Below w.heap.size w W→Calls Tryz.prog 190 #[sl p.hi,.int .i64 (p.year - n),.func (.func g) #[] lb] W (NewRc W (recsL p.hi.l (p.year - n) ch))):=fun W hW =>
  hrects_any p.hi (p.year - n) g lb eg ok ch W (h.hi.below hW) (fun r hr=>⟨(h.his r hr).1.below hW,h.few hr,hok _ (h.his r hr).2.1 (h.his r hr).2.2⟩) (hp.below hW)
 have hlen:(recsL p.hi.l (p.year - n) ch).length≤24000:=by
  have h1:=recsL_len (l:=p.hi.l) (fun r hr=>by have:=h.few hr;have:=(h.his r hr).1.1.2.1;omega) (p.year - n) ch
  have h2:=h.hi.len;have h3:=h.hi.few
  omega
 have hwd:Wide (recsL p.hi.l (p.year - n) ch):=fun q hq=>by
  unfold recsL at hq
  obtain ⟨r,hr,hq⟩:=List.mem_flatMap.1 hq
  split at hq
  ·exact h.wide hr q hq
  ·cases hq
 have W0:RowKit.Hid (Blk (w.alloc (.cells p.cells.toArray 98)) w.heap.size _ p.cells.toArray):=Blk.new w _ _
 have H:=hid h;have HLEN:=hid hlen;have HWD:=hid hwd
 have c0:(w.alloc (.cells p.cells.toArray 98)).cell? ⟨w.heap.size,0,none⟩=some (.int .i64 p.year):=W0.out.cell 0
 have c2:(w.alloc (.cells p.cells.toArray 98)).cell? ⟨w.heap.size,2,none⟩=some (sl p.hi):=W0.out.cell 2
 have c9:(w.alloc (.cells p.cells.toArray 98)).cell? ⟨w.heap.size,9,none⟩=some (sl p.rc):=W0.out.cell 9
 have yy:=h.year
 have hcan:=hid h.can
 obtain ⟨W1,hW1⟩:∃ W1,w.alloc (.cells p.cells.toArray 98)=W1:=⟨_,rfl⟩
 have B1:RowKit.Hid (Below w.heap.size w W1):=by show Below _ _ _;rw [← hW1];exact Bw.out
 have y1:w.heap.size<W1.heap.size:=by rw [← hW1];simp
 rw [hW1] at c0 c2 c9
 obtain ⟨L,hL⟩:∃ L,recsL p.hi.l (p.year - n) ch=L:=⟨_,rfl⟩
 have HL:=hid hL
 rw [hL] at RC HLEN HWD
 obtain ⟨hs,hhs⟩:∃ v,sl p.hi=v:=⟨_,rfl⟩
 rw [hhs] at RC c2
 obtain ⟨z,hz⟩:∃ z,p.year - n=z:=⟨_,rfl⟩
 rw [hz] at RC
 have ws:IntKind.i64.wrap (p.year - n)=z:=by rw [IntWalk.i64_in _ (by omega)];exact hz
 have HZ:=hid hz
 clear hz
 clear h hlen hwd W0 hp hL hhs
 go_enter Tryz.func155,Tryz.ntmps155
 go_wp2
 go_region_held3 (fun w'=>w'.cell? ⟨w.heap.size,0,none⟩=some (.int .i64 p.year)∧w'.cell? ⟨w.heap.size,2,none⟩=some hs∧w'.cell? ⟨w.heap.size,9,none⟩=some (sl p.rc)) (first | exact ⟨c0,c2,c9⟩ | exact ⟨d0,d2,d9⟩ | exact ⟨m0,m2,m9⟩ | simp [go_sem, *])
  (first
  | (go_at_call 190;refine (RC.out _ (by (repeat (with_reducible first | exact B1.out | exact Below.refl _ _ | refine bdr ?_ | refine bdn ?_ _ | refine bal ?_ _)))).mono ?_;rintro e w4 ⟨v,rfl,own4,hb4⟩;obtain ⟨a4,k4,rfl,-,-,-⟩:=own_form own4;have d0:=bc1 (btr Bw.out hb4) c0;have d2:=bc1 (btr Bw.out hb4) c2;have d9:=bc1 (btr Bw.out hb4) c9;have B4:=hid (btr B1.out (btr Bw.out hb4):Below w.heap.size w w4);have R4:=hid own4)
  | (go_at_call 145;refine (choose_any p.rc.a p.rc.n p.rc.c p.rc.l a4 L.length k4 L 146 #[] en_both fBoth _ (H.out.rc.1.below (by (repeat (with_reducible first | exact B4.out | exact Below.refl _ _ | refine bdr ?_ | refine bdn ?_ _ | refine bal ?_ _)))) ⟨(vw_of_own R4.out).below Bw.out,rfl,Nat.le_trans HLEN.out (by omega)⟩ (wide_can hcan.out) HWD.out (ch_both _) rfl).mono ?_;rintro e w5 ⟨l5,cn5,ln5,v5,rfl,own5,hb5⟩;have m0:=bc1 (btr Bw.out hb5) d0;have m2:=bc1 (btr Bw.out hb5) d2;have m9:=bc1 (btr Bw.out hb5) d9;have B5:=hid (btr B4.out (btr Bw.out hb5):Below w.heap.size w w5)))
 all_goals
  have y4:=B4.out.size
  go_wp2
  go_ret
  refine ⟨l5,cn5.congr fun x y=>?_,ln5,v5,rfl,own_base own5 (by first | omega | (simp;omega)),B5.out⟩
  rw [show (fBoth (insB p.rc.l x y) (insB L x y)=true)↔(insB p.rc.l x y=true∧insB L x y=true) by unfold fBoth;rw [Bool.and_eq_true],insB_iff,insB_iff,← HL.out]
  show inRc p.rc.l x y∧inRc (recsL p.hi.l (p.year - n) ch) x y↔_
  rw [recs_env]
  exact Iff.rfl
theorem sqInfo:(Tryz.prog.info? 100).map (·.size)=some 3:=by kernel_rfl
theorem sq_one (a b c:Value) (ha:a.oneCell'=true) (hb:b.oneCell'=true) (hc:c.oneCell'=true):(#[a,b,c]:Array Value).all (·.oneCell')=true:=by
 rw [List.all_toArray];simp [ha,hb,hc]
theorem insB_can {S:Sq} {l:List Rc} (h:IsCan S l) (x y:Int):insB l x y=true↔S x y:=by rw [insB_iff];exact h.iff x y
theorem without_iff {S T:Sq} {l m:List Rc} (h:IsCan S l) (k:IsCan T m) (x y:Int):fWithout (insB l x y) (insB m x y)=true↔(S x y∧¬ T x y):=by
 unfold fWithout
 rw [Bool.and_eq_true,insB_can h,Bool.not_eq_true',← Bool.not_eq_true,insB_can k]
theorem both_iff {S T:Sq} {l m:List Rc} (h:IsCan S l) (k:IsCan T m) (x y:Int):fBoth (insB l x y) (insB m x y)=true↔(S x y∧T x y):=by
 unfold fBoth
 rw [Bool.and_eq_true,insB_can h,insB_can k]
theorem either_iff {S T:Sq} {l m:List Rc} (h:IsCan S l) (k:IsCan T m) (x y:Int):fEither (insB l x y) (insB m x y)=true↔(S x y∨T x y):=by
 unfold fEither
 rw [Bool.or_eq_true,insB_can h,insB_can k]
def NewS (w:World) (S:Sq) (e:Ending) (w':World):Prop:=∃ a n c l,e=.returned (.slice a n c)∧ScOk2 w' ⟨a,n,c,l⟩∧IsCan S l∧Below w.heap.size w w'∧∀ b off,a=some ⟨b,off,none⟩→w.heap.size≤b
theorem NewCan.toS {w:World} {S R:Sq} {e:Ending} {w':World} (h:NewCan w S e w') (hS:∀ x y,S x y→R x y) (hR:∀ x y,R x y→0≤x∧x<300∧0≤y∧y<300):NewS w S e w':=by
 obtain ⟨l,h1,h2,v,rfl,h3,h4⟩:=h
 obtain ⟨a,c,rfl,h5,h6⟩:=new_ok h1 hS hR h3
 exact ⟨a,_,c,l,rfl,h5,h1,h4,h6⟩
theorem vw_setRow {w:World} {a:Option Addr} {xs:List Value} {g:Nat} {cs:Array Value} (h:Vw w a xs) (hg:∀ b off,a=some ⟨b,off,none⟩→b ≠ g):Vw (w.setRow g cs) a xs:=fun i v hi=>by
 obtain ⟨b,off,e,hc⟩:=h i v hi
 exact ⟨b,off,e,(World.cell?_of_block (w:=w) (a:=⟨b,off+i,none⟩) (setRow_other w g b cs (hg b off e))).trans hc⟩
def FarS (g:Nat) (s:Sc Rc):Prop:=s.l ≠ []→∀ b off,s.a=some ⟨b,off,none⟩→b ≠ g
theorem far_old {w:World} {s:Sc Rc} (h:ScOk2 w s) {g:Nat} (hg:w.heap.size≤g):FarS g s:=fun hl b off e=>by
 obtain ⟨b',off',e',hb,-⟩:=h.1.1.all (by rw [cellsOf_length encRc_len];have:=List.length_pos_iff.2 hl;omega)
 rw [e'] at e
 cases e
 omega
theorem far_new {s:Sc Rc} {g m:Nat} (h:∀ b off,s.a=some ⟨b,off,none⟩→m≤b) (hg:g<m):FarS g s:=fun _ b off e=>by have:=h b off e;omega
theorem tyS_setRow {w:World} {s:Sc Rc} {g:Nat} {cs:Array Value} (h:TyS w s) (hf:FarS g s):TyS (w.setRow g cs) s:=fun hl=>by
 obtain ⟨b,off,T,cs',h1,h2,h3⟩:=h hl
 exact ⟨b,off,T,cs',h1,(setRow_other w g b cs (hf hl b off h1)).trans h2,h3⟩
theorem far_setRow {w:World} {s:Sc Rc} {g:Nat} {cs:Array Value} (h:ScOk2 w s) (hf:FarS g s):ScOk2 (w.setRow g cs) s:=by
 refine ⟨⟨fun i v hi=>?_,h.1.2⟩,h.2.1,tyS_setRow h.2.2 hf⟩
 obtain ⟨b,off,e,hc⟩:=h.1.1 i v hi
 have hl:s.l ≠ []:=fun c=>by rw [c] at hi;simp [cellsOf] at hi
 exact ⟨b,off,e,(World.cell?_of_block (w:=w) (a:=⟨b,off+i,none⟩) (setRow_other w g b cs (hf hl b off e))).trans hc⟩
theorem ok_setRow {w:World} {s:Sc Rc} {g:Nat} {cs:Array Value} (h:ScOk2 w s) (hg:∀ b off,s.a=some ⟨b,off,none⟩→b ≠ g):ScOk2 (w.setRow g cs) s:=⟨⟨vw_setRow h.1.1 hg,h.1.2⟩,h.2.1,tyS_setRow h.2.2 fun _=>hg⟩
theorem chooseS (a1:Option Addr) (n1 k1:Nat) (l1:List Rc) (a2:Option Addr) (n2 k2:Nat) (l2:List Rc) (g:Nat) (eg:Enters g) (f:Bool→Bool→Bool) (S T U R:Sq) (w:World) (h1:ScOk2 w ⟨a1,n1,k1,l1⟩) (h2:ScOk2 w ⟨a2,n2,k2,l2⟩) (c1:IsCan S l1) (c2:IsCan T l2)
  (hf:Chooses w g #[] f) (hff:f false false=false) (hU:∀ x y,f (insB l1 x y) (insB l2 x y)=true↔U x y) (hR:∀ x y,U x y→R x y) (hb:∀ x y,R x y→0≤x∧x<300∧0≤y∧y<300) :
  Calls Tryz.prog 145 #[.slice a1 n1 k1,.slice a2 n2 k2,.func (.func g) #[] #[]] w (NewS w U) :=
 (choose_any a1 n1 k1 l1 a2 n2 k2 l2 g #[] eg f w h1.1 h2.1 (wide_can c1) (wide_can c2) hf hff).mono fun e w' h=>(h.congr hU).toS hR hb
def RestP (w:World) (E:Env) (ya:Option Addr) (yn yc:Nat) (na:Option Addr) (nn nc:Nat) (S T:Sq) (e:Ending) (w':World):Prop :=
 ∃ a n c l,e=.returned (.agg #[.slice ya yn yc,.slice na nn nc,.slice a n c])∧ScOk2 w' ⟨a,n,c,l⟩∧IsCan (fun x y=>E.R x y∧¬ S x y∧¬ T x y) l∧Below w.heap.size w w'∧∀ b off,a=some ⟨b,off,none⟩→w.heap.size≤b
theorem rest_any (p:PlM) (ya:Option Addr) (yn yc:Nat) (yl:List Rc) (na:Option Addr) (nn nc:Nat) (nl:List Rc) (S T:Sq) (w:World) (h:PlOk w p) (hy:ScOk2 w ⟨ya,yn,yc,yl⟩) (cy:IsCan S yl) (hn:ScOk2 w ⟨na,nn,nc,nl⟩) (cn:IsCan T nl) :
  Calls Tryz.prog 148 #[.agg p.cells.toArray,.slice ya yn yc,.slice na nn nc] w (RestP w p.env ya yn yc na nn nc S T):=by
 have C1:RowKit.Hid (∀ W,Below w.heap.size w W→Calls Tryz.prog 145 #[.slice p.rc.a p.rc.n p.rc.c,.slice ya yn yc,.func (.func 187) #[] #[]] W (NewS W fun x y=>p.env.R x y∧¬ S x y)):=fun W hW =>
  chooseS _ _ _ p.rc.l _ _ _ yl _ en_without fWithout p.env.R S _ p.env.R W (h.rc.below hW) (hy.below hW) h.can cy (ch_without _) rfl (without_iff h.can cy) (fun x y c=>c.1) h.board
 have C2:RowKit.Hid (∀ W a n c l,Below w.heap.size w W→ScOk2 W ⟨a,n,c,l⟩→IsCan (fun x y=>p.env.R x y∧¬ S x y) l→Calls Tryz.prog 145 #[.slice a n c,.slice na nn nc,.func (.func 187) #[] #[]] W (NewS W fun x y=>(p.env.R x y∧¬ S x y)∧¬ T x y)):=fun W a n c l hW h1 h2 =>
  chooseS _ _ _ l _ _ _ nl _ en_without fWithout _ T _ p.env.R W h1 (hn.below hW) h2 cn (ch_without _) rfl (without_iff h2 cn) (fun x y c=>c.1.1) h.board
 have W0:Blk ((w.alloc (.cells p.cells.toArray 98)).alloc (.cells #[.slice none 0 0,.slice none 0 0,.slice none 0 0] 100)) w.heap.size 98 p.cells.toArray:=(Blk.new w _ _).alloc _
 have Z0:Blk ((w.alloc (.cells p.cells.toArray 98)).alloc (.cells #[.slice none 0 0,.slice none 0 0,.slice none 0 0] 100)) (w.heap.size+1) 100 _:=Blk.fresh (by simp)
 have B0:Below w.heap.size w ((w.alloc (.cells p.cells.toArray 98)).alloc (.cells #[.slice none 0 0,.slice none 0 0,.slice none 0 0] 100)):=Bw.out
 have c9:((w.alloc (.cells p.cells.toArray 98)).alloc (.cells #[.slice none 0 0,.slice none 0 0,.slice none 0 0] 100)).cell? ⟨w.heap.size,9,none⟩=some (.slice p.rc.a p.rc.n p.rc.c):=W0.cell 9
 have HZ:=hid Z0;have HB:=hid B0
 clear W0 Z0 B0 h hy cy hn cn
 go_enter Tryz.func148,Tryz.ntmps148
 go_wp2_with (first
  | (go_at_call 145;first
   | ((with_reducible refine (C1.out _ HB.out).mono ?_);rintro e w1 ⟨a1,n1,k1,l1,rfl,s1,i1,hb1,-⟩;have B1:=hid (btr HB.out hb1);have Z1:=hid (HZ.out.below hb1);have S1:=hid s1;have I1:=hid i1)
   | ((with_reducible refine (C2.out _ _ _ _ l1 B1.out S1.out I1.out).mono ?_);rintro e w2 ⟨a2,n2,k2,l2,rfl,s2,i2,hb2,hi2⟩;have B2:=hid (btr B1.out hb2);have Z2:=hid (Z1.out.below hb2);have S2:=hid s2;have I2:=hid i2))
  | (refine wpList_store_row rfl 100 (.tmp 6) (.tmp 17) rfl (w.heap.size+1) _ rfl rfl _ _ Z2.out sqInfo rfl (sq_one _ _ _ rfl rfl rfl) ?_))
 have BR:=setRow_heap w2 (w.heap.size+1) _ #[.slice ya yn yc,.slice na nn nc,.slice a2 n2 k2] _ _ Z2.out
 have y1:=Z1.out.lt
 refine bodyPost_ret (results_cell_row rfl _ _ _ _ _ _ _ rfl BR Tryz.underlying100 rfl sqInfo) rfl ?_
 refine ⟨a2,n2,k2,l2,rfl,ok_setRow S2.out (fun b off e=>by have:=hi2 b off e;omega),I2.out.congr fun x y=>⟨fun h=>⟨h.1.1,h.1.2,h.2⟩,fun h=>⟨⟨h.1,h.2.1⟩,h.2.2⟩⟩,below_setRow B2.out (by omega) _,fun b off e=>by have:=hi2 b off e;omega⟩
structure CanS (w:World) (S:Sq) (s:Sc Rc):Prop where
 ok:ScOk2 w s
 can:IsCan S s.l
theorem CanS.below {w w':World} {S:Sq} {s:Sc Rc} (h:CanS w S s) (hb:Below w.heap.size w w'):CanS w' S s:=⟨h.ok.below hb,h.can⟩
def nilSc:Sc Rc:=⟨none,0,0,[]⟩
theorem canS_nil (w:World) {S:Sq} (h:∀ x y,¬ S x y):CanS w S nilSc:=⟨⟨⟨Vw.nil _ _,rfl,by simp [nilSc]⟩,fun _=>rfl,fun h=>absurd rfl h⟩,[],trivial,rfl,fun x y=>⟨fun c=>absurd c (inBd_nil _ _),fun c=>absurd c (h x y)⟩⟩
def SqP (w:World) (E:Env) (p:Pr) (e:Ending) (w':World):Prop :=
 ∃ y n o:Sc Rc,e=.returned (.agg #[.slice y.a y.n y.c,.slice n.a n.n n.c,.slice o.a o.n o.c])∧CanS w' p.yes y∧CanS w' p.no n∧CanS w' (E.rest p) o∧Below w.heap.size w w'
theorem sqP_rest {w w1:World} {E:Env} {y n:Sc Rc} {p:Pr} {e:Ending} {w':World} (h:RestP w1 E y.a y.n y.c n.a n.n n.c p.yes p.no e w') (hb:Below w.heap.size w w1) (hy:CanS w1 p.yes y) (hn:CanS w1 p.no n):SqP w E p e w':=by
 obtain ⟨a,k,c,l,rfl,h1,h2,h3,-⟩:=h
 exact ⟨y,n,⟨a,k,c,l⟩,rfl,hy.below h3,hn.below h3,⟨h1,h2⟩,btr hb h3⟩
theorem whole_any (p:PlM) (b:Bool) (w:World) (h:PlOk w p):Calls Tryz.prog 149 #[.agg p.cells.toArray,.bool b] w (SqP w p.env (p.env.whole b)):=by
 have W0:Blk ((w.alloc (.cells p.cells.toArray 98)).alloc (.cells #[.slice none 0 0,.slice none 0 0,.slice none 0 0] 100)) w.heap.size 98 p.cells.toArray:=(Blk.new w _ _).alloc _
 have c9:((w.alloc (.cells p.cells.toArray 98)).alloc (.cells #[.slice none 0 0,.slice none 0 0,.slice none 0 0] 100)).cell? ⟨w.heap.size,9,none⟩=some (.slice p.rc.a p.rc.n p.rc.c):=W0.cell 9
 have H:=hid h
 clear W0 h
 have e1:(w.alloc (.cells p.cells.toArray 98)).heap.size=w.heap.size+1:=by simp
 cases b with
 | true =>
  go_enter Tryz.func149,Tryz.ntmps149
  go_wp2_with (refine st_new rfl 100 (.tmp 4) (.tmp 8) rfl #[.slice p.rc.a p.rc.n p.rc.c,.slice none 0 0,.slice none 0 0] _ _ rfl rfl sqInfo rfl (sq_one _ _ _ rfl rfl rfl) ?_)
  refine bodyPost_ret (results_cell_row rfl _ _ (w.heap.size+1) _ _ _ _ rfl (Blk.fresh (by simp)) Tryz.underlying100 rfl sqInfo) rfl ?_
  exact ⟨p.rc,nilSc,nilSc,rfl,⟨H.out.rc.below Bw.out,H.out.can⟩,canS_nil _ (fun x y c=>c),canS_nil _ (fun x y c=>c.2.1 c.1),Bw.out⟩
 | false =>
  go_enter Tryz.func149,Tryz.ntmps149
  go_wp2_with (refine st_new rfl 100 (.tmp 4) (.tmp 11) rfl #[.slice none 0 0,.slice p.rc.a p.rc.n p.rc.c,.slice none 0 0] _ _ rfl rfl sqInfo rfl (sq_one _ _ _ rfl rfl rfl) ?_)
  refine bodyPost_ret (results_cell_row rfl _ _ (w.heap.size+1) _ _ _ _ rfl (Blk.fresh (by simp)) Tryz.underlying100 rfl sqInfo) rfl ?_
  exact ⟨nilSc,p.rc,nilSc,rfl,canS_nil _ (fun x y c=>c),⟨H.out.rc.below Bw.out,H.out.can⟩,canS_nil _ (fun x y c=>c.2.2 c.1),Bw.out⟩
theorem decided_any (p:PlM) (s:Sc Rc) (S:Sq) (w:World) (h:PlOk w p) (hs:CanS w S s) (hS:∀ x y,S x y→p.env.R x y):Calls Tryz.prog 153 #[.agg p.cells.toArray,.slice s.a s.n s.c] w (SqP w p.env ⟨S,fun x y=>p.env.R x y∧¬ S x y⟩):=by
 obtain ⟨ya,yn,yc,yl⟩:=s
 dsimp only
 have C1:RowKit.Hid (∀ W,Below w.heap.size w W→Calls Tryz.prog 145 #[.slice p.rc.a p.rc.n p.rc.c,.slice ya yn yc,.func (.func 187) #[] #[]] W (NewS W fun x y=>p.env.R x y∧¬ S x y)):=fun W hW =>
  chooseS _ _ _ p.rc.l _ _ _ yl _ en_without fWithout p.env.R S _ p.env.R W (h.rc.below hW) (hs.ok.below hW) h.can hs.can (ch_without _) rfl (without_iff h.can hs.can) (fun x y c=>c.1) h.board
 have W0:Blk ((w.alloc (.cells p.cells.toArray 98)).alloc (.cells #[.slice none 0 0,.slice none 0 0,.slice none 0 0] 100)) w.heap.size 98 p.cells.toArray:=(Blk.new w _ _).alloc _
 have Z0:Blk ((w.alloc (.cells p.cells.toArray 98)).alloc (.cells #[.slice none 0 0,.slice none 0 0,.slice none 0 0] 100)) (w.heap.size+1) 100 _:=Blk.fresh (by simp)
 have B0:Below w.heap.size w ((w.alloc (.cells p.cells.toArray 98)).alloc (.cells #[.slice none 0 0,.slice none 0 0,.slice none 0 0] 100)):=Bw.out
 have c9:((w.alloc (.cells p.cells.toArray 98)).alloc (.cells #[.slice none 0 0,.slice none 0 0,.slice none 0 0] 100)).cell? ⟨w.heap.size,9,none⟩=some (.slice p.rc.a p.rc.n p.rc.c):=W0.cell 9
 have HZ:=hid Z0;have HB:=hid B0;have HS:=hid hs;have H:=hid h
 clear W0 Z0 B0 h hs
 go_enter Tryz.func153,Tryz.ntmps153
 go_wp2_with (first
  | (go_at_call 145;refine (C1.out _ HB.out).mono ?_;rintro e w1 ⟨a1,n1,k1,l1,rfl,s1,i1,hb1,hi1⟩;have B1:=hid (btr HB.out hb1);have Z1:=hid (HZ.out.below hb1);have S1:=hid s1;have I1:=hid i1)
  | (refine wpList_store_row rfl 100 (.tmp 4) (.tmp 10) rfl (w.heap.size+1) #[.slice ya yn yc,.slice a1 n1 k1,.slice none 0 0] rfl rfl _ _ Z1.out sqInfo rfl (sq_one _ _ _ rfl rfl rfl) ?_))
 have BR:=setRow_heap w1 (w.heap.size+1) _ #[.slice ya yn yc,.slice a1 n1 k1,.slice none 0 0] _ _ Z1.out
 have y1:=HZ.out.lt
 have bb:Below w.heap.size w (w1.setRow (w.heap.size+1) #[.slice ya yn yc,.slice a1 n1 k1,.slice none 0 0]):=below_setRow B1.out (by omega) _
 refine bodyPost_ret (results_cell_row rfl _ _ _ _ _ _ _ rfl BR Tryz.underlying100 rfl sqInfo) rfl ?_
 exact ⟨⟨ya,yn,yc,yl⟩,⟨a1,n1,k1,l1⟩,nilSc,rfl,HS.out.below bb,⟨ok_setRow S1.out (fun b off e=>by have:=hi1 b off e;omega),I1.out⟩,canS_nil _ (fun x y c=>c.2.2 ⟨c.1,c.2.1⟩),bb⟩
theorem turned_any (y n o:Sc Rc) (w:World):Calls Tryz.prog 97 #[.agg #[.slice y.a y.n y.c,.slice n.a n.n n.c,.slice o.a o.n o.c]] w fun e w'=>e=.returned (.agg #[.slice n.a n.n n.c,.slice y.a y.n y.c,.slice o.a o.n o.c])∧Below w.heap.size w w':=by
 go_enter Tryz.func97,Tryz.ntmps97
 go_wp2_with (refine st_new rfl 100 (.tmp 2) (.tmp 9) rfl #[.slice n.a n.n n.c,.slice y.a y.n y.c,.slice o.a o.n o.c] _ _ rfl rfl sqInfo rfl (sq_one _ _ _ rfl rfl rfl) ?_)
 refine bodyPost_ret (results_cell_row rfl _ _ (w.heap.size+1) _ _ _ _ rfl (Blk.fresh (by simp)) Tryz.underlying100 rfl sqInfo) rfl ?_
 exact ⟨rfl,Bw.out⟩
end Go.Proofs.YtancajcelmhnkaaGreatDoor
