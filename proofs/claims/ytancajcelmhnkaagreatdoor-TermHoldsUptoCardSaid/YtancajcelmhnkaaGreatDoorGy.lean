/- The world of law 16 is right: Eval makes no error in it. -/
import Derived.Test.YtancajcelmhnkaaGreatDoorGx
import Derived.Test.YtancajcelmhnkaaGreatDoorPevw
set_option maxRecDepth 100000
set_option maxHeartbeats 4000000
namespace Go.Proofs.YtancajcelmhnkaaGreatDoor
open Go.RowKit Go.Sort Go.Shelf
set_option linter.unusedVariables false
def kwP (rc:Sc Rc) (crop:Int) (cr:Sc Crp) (hi:Sc RcdM) (zo:Sc FtrM) (year day:Int):PlM:=⟨year,day,0,crop,0,cr,hi,zo,rc⟩
section
variable {b:Nat} {w w':World} {rc:Sc Rc} {crop:Int} {cr:Sc Crp} {hi:Sc RcdM} {zo:Sc FtrM} {year:Int}
theorem LayOk.good {l:List Ftr} (h:LayOk l):LGood l:=⟨h.len,fun f hf=>⟨(h.mem hf).number,(h.mem hf).days,(h.mem hf).some,(h.mem hf).valid⟩,h.pair⟩
theorem KW.plg (h:KW b w rc crop cr hi zo year) (day:Int):PlG (hole b w) (kwP rc crop cr hi zo year day) where
 cr:=h.crs.wide (by decide)
 hi:=h.his.rws.wide (by decide)
 zo:=h.lay.rws.wide (by decide)
 rc:=h.rok
 cat:=h.cat.toM
 his:=h.his.rows
 hgood:=fun _=>h.his.hist.good
 zos:=h.lay.rows
 zgood:=h.lay.lay.good
theorem PlG.fill {p:PlM} (h:PlG (hole b w) p):PlG w p :=
 ⟨h.cr.fill,h.hi.fill,h.zo.fill,h.rc.fill,h.cat,fun r hr=>(h.his r hr).fill,h.hgood,fun r hr=>(h.zos r hr).fill,h.zgood⟩
theorem KW.bd (h:KW b w rc crop cr hi zo year):Board (inRc rc.l):=fun x y k=>by have:=h.board x y k;omega
theorem KW.vld (h:KW b w rc crop cr hi zo year):Vld rc.l:=vld_can h.can h.bd
theorem KW.holed (h:KW b w rc crop cr hi zo year) (hs:Below (hole b w).heap.size (hole b w) (hole b w')):KW b w' rc crop cr hi zo year :=
 ⟨h.rok.below hs,h.can,h.board,h.cok,h.crs.below hs,h.cat,h.marks,h.three,h.his.holed hs,h.hin,h.lay.holed hs,h.zon,h.yok⟩
theorem KW.err (h:KW b w rc crop cr hi zo year) {day:Int} (h1:0≤day) (h2:day≤36864) {t:Tm} (hc:chkT t=0):evErr (kwP rc crop cr hi zo year day) t=0:=by
 unfold evErr
 have y:=h.yok
 rw [if_neg (by rw [hc];exact fun k=>k rfl),if_neg,if_neg,if_neg,if_neg,if_neg,if_neg,if_neg]
 ·exact fun k=>k h.vld
 ·exact fun k=>k ⟨h1,h2⟩
 ·rintro ⟨f,hf,k⟩
  have:=(h.lay.lay.mem hf).kind
  unfold kindOk at k
  exact absurd this (of_decide_eq_false k)
 ·show ¬ (year<0∨100<year);omega
 ·exact fun k=>k h.his.hist.sort
 ·have hc:=h.cok
  have hlow:∀ r ∈ hi.l,0≤r.crop∧r.crop<cr.n:=fun r hr=>⟨(h.his.hist.mem (List.mem_map.2 ⟨r,hr,rfl⟩)).crop.1,(h.his.low r hr).1⟩
  rintro (k | ⟨r,hr,k⟩)
  ·have h3:crop<0∨(cr.n:Int)≤crop:=(wrongB_iff _ _).1 k
   omega
  ·have h3:r.crop<0∨(cr.n:Int)≤r.crop:=(wrongB_iff _ _).1 k
   have h4:=hlow r hr
   omega
 ·rintro ⟨c,hcc,k⟩
  rw [h.marks c hcc] at k;cases k
theorem chkT_ok {t:Tm} (hf:t.form=true) (hd:t.depth≤8) (hs:t.size≤40):chkT t=0:=by
 unfold chkT rightB
 rw [if_neg (by omega),hf,decide_eq_true hd];rfl
theorem KT.chk {d base:Nat} {t:TmM} (h:KT d base w t) (hd:d≤3):chkT t.pl=0 :=
 chkT_ok h.form (by have:=h.depth;omega) (by
  have:=h.size
  have:2 ^ (d+1)≤2 ^ 4:=Nat.pow_le_pow_right (by decide) (by omega)
  omega)
theorem KW.eval (h:KW b w rc crop cr hi zo year) {t:TmM} (ht:TmOk (hole b w) t) (hc:chkT t.pl=0) {day:Int} (h1:0≤day) (h2:day≤36864) :
  Calls Tryz.prog 20 #[.agg (encTm t).toArray,.agg #[.int .i64 0,.slice rc.a rc.n rc.c,.int .i64 crop,.int .i64 0],.int .i64 year,.slice cr.a cr.n cr.c,.slice hi.a hi.n hi.c,.slice zo.a zo.n zo.c,.int .i64 day] w fun e w' =>
   ∃ y n o:Sc Rc,e=.returned (.tuple #[.agg #[.slice y.a y.n y.c,.slice n.a n.n n.c,.slice o.a o.n o.c],.int .i64 0])∧CanS w' ((kwP rc crop cr hi zo year day).env.ev t.pl).yes y∧CanS w' ((kwP rc crop cr hi zo year day).env.ev t.pl).no n∧CanS w' ((kwP rc crop cr hi zo year day).env.rest ((kwP rc crop cr hi zo year day).env.ev t.pl)) o∧Below w.heap.size w w'∧(kwP rc crop cr hi zo year day).env.Fine ((kwP rc crop cr hi zo year day).env.ev t.pl):=by
 refine (peval_any (kwP rc crop cr hi zo year day) t w (h.plg day).fill ht.fill h.bd).mono ?_
 rintro e w' (⟨k,-⟩ | ⟨-,y,n,o,rfl,k1,k2,k3,k4,k5⟩)
 ·exact absurd (h.err h1 h2 hc) k
 ·exact ⟨y,n,o,rfl,k1,k2,k3,k4,k5⟩
end
set_option linter.unusedSimpArgs false
theorem size_any (a:Option Addr) (n cap:Nat) (l:List Rc) (w:World) (hV:Vw w a (rcCells l)) (hn:l.length=n) (hc:n≤1000000) (hp:∀ q ∈ l,Prp q) :
  Calls Tryz.prog 61 #[.slice a n cap] w fun e w'=>e=.returned (.int .i64 (sizeRc l))∧Below w.heap.size w w':=by
 have HV:=hid hV;have HN:=hid hn;have HP:=hid hp
 clear hV hn hp
 go_enter Tryz.func61,Tryz.ntmps61
 go_wp2
 go_loopw [3,8] (fun s i wr=>∃ k:Nat,k≤n∧i=.int .i64 k∧s=.int .i64 (sizeRc (l.take k))∧Below w.heap.size w wr) (fun _ i _=>n - (intOf i).toNat)
 case atStart=>exact ⟨0,Nat.zero_le _,rfl,rfl,Below.refl _ _⟩
 case round =>
  obtain ⟨k,hk,rfl,rfl,hb⟩:=hrel
  have HB:=hid hb
  by_cases hlt:k<n
  ·have g1:k<l.length:=by have:=HN.out;omega
   obtain ⟨b,off,rfl,hbl,c0,c1,c2,c3⟩:=(HV.out.below hb).rc k g1
   have hs:=sizeRc_snoc (l.take k) l[k]
   rw [← List.take_succ_eq_append_getElem g1] at hs
   have HA:=prp_area (HP.out _ (List.getElem_mem g1))
   have HQ:=HP.out _ (List.getElem_mem g1)
   have hbd:=sizeRc_bd (l:=l.take k) (fun q hq=>HP.out q (List.mem_of_mem_take hq))
   have hkl:(l.take k).length≤1000000:=by rw [List.length_take];omega
   obtain ⟨q,hq⟩:∃ q,l[k]=q:=⟨_,rfl⟩
   rw [hq] at c0 c1 c2 c3 hs HA HQ
   clear hq hb
   obtain ⟨q0,q1,q2,q3⟩:=q
   dsimp only at c0 c1 c2 c3 hs HA
   obtain ⟨S,hS⟩:∃ S,sizeRc (l.take k)=S:=⟨_,rfl⟩
   rw [hS] at hs hbd ⊢
   have HSS:=hid hS;have HS:=hid hs
   obtain ⟨p0,p1,p2,p3,p4,p5⟩:=HQ
   dsimp only at p0 p1 p2 p3 p4 p5
   have d1:wrap64 (q2 - q0)=q2 - q0:=IntWalk.wrap64_in _ (by omega)
   have d2:wrap64 (q3 - q1)=q3 - q1:=IntWalk.wrap64_in _ (by omega)
   have d3:wrap64 ((q2 - q0) * (q3 - q1))=(q2 - q0) * (q3 - q1):=IntWalk.wrap64_in _ (by omega)
   have d4:wrap64 (S+(q2 - q0) * (q3 - q1))=S+(q2 - q0) * (q3 - q1):=IntWalk.wrap64_in _ (by omega)
   clear hS hs hbd
   go_wp2
   go_roundw
   case rel=>exact ⟨k+1,by omega,by go_num,by rw [HS.out];exact congrArg _ d4,(by (repeat (with_reducible first | exact HB.out | exact Below.refl _ _ | refine bdr ?_ | refine bdn ?_ _ | refine bal ?_ _)))⟩
   case measure=>simp [intOf];omega
  ·have hge:l.take k=l:=List.take_of_length_le (by have:=HN.out;omega)
   rw [hge]
   clear hge
   go_wp2
   go_ret
   exact ⟨rfl,hb⟩
def areaOf (l:List Rc) (x:Int):Prop:=(Vld l→x=sizeRc l)∧(¬ Vld l→x=0)
theorem area_any (a:Option Addr) (n cap:Nat) (l:List Rc) (w:World) (hV:Vw w a (rcCells l)) (hn:l.length=n) (hc:n≤9223372036854775807) :
  Calls Tryz.prog 24 #[.agg #[.slice a n cap]] w fun e w'=>∃ x,e=.returned (.int .i64 x)∧areaOf l x∧Below w.heap.size w w':=by
 have HC:RowKit.Hid (∀ W,Below w.heap.size w W→Calls Tryz.prog 59 #[.agg #[.slice a n cap]] W (Says W (Vld l))):=fun W hW=>rvalid_any a n cap l W (hV.below hW) hn hc
 have HZ:RowKit.Hid (∀ W,Below w.heap.size w W→Vld l→Calls Tryz.prog 61 #[.slice a n cap] W fun e w'=>e=.returned (.int .i64 (sizeRc l))∧Below W.heap.size W w'):=fun W hW hv =>
  size_any a n cap l W (hV.below hW) hn (by have:=hv.1;omega) hv.2.1
 clear hV hn hc
 by_cases hv:Vld l
 ·have HVV:=hid hv
  clear hv
  go_enter Tryz.func24,Tryz.ntmps24
  go_wp2_with (first
   | (go_at_call 59;refine (HC.out _ Bw.out).mono ?_;rintro e w1 ⟨b,rfl,hv,hb1⟩;obtain rfl:b=true:=hv.2 HVV.out;clear hv;have c0:w1.cell? ⟨w.heap.size,0,none⟩=some (.slice a n cap):=bc1 hb1 (by simp [go_sem]);have y1:=hb1.size;(try simp at y1))
   | (go_at_call 61;refine (HZ.out _ (btr Bw.out hb1) HVV.out).mono ?_;rintro e w2 ⟨rfl,hb2⟩))
  go_ret
  exact ⟨_,rfl,⟨fun _=>rfl,fun h=>absurd HVV.out h⟩,btr (btr Bw.out hb1) hb2⟩
 ·have HVV:=hid hv
  clear hv
  go_enter Tryz.func24,Tryz.ntmps24
  go_wp2_with (go_at_call 59;refine (HC.out _ Bw.out).mono ?_;rintro e w1 ⟨b,rfl,hv,hb1⟩;obtain rfl:b=false:=by cases b with | true=>exact absurd (hv.1 rfl) HVV.out | false=>rfl)
  go_ret
  exact ⟨0,rfl,⟨fun h=>absurd h HVV.out,fun _=>rfl⟩,btr Bw.out hb1⟩
theorem areaS {w:World} {s:Sc Rc} {S:Sq} (h:CanS w S s) (hb:∀ x y,S x y→0≤x∧x<10∧0≤y∧y<10) :
  Calls Tryz.prog 24 #[.agg #[.slice s.a s.n s.c]] w fun e w'=>e=.returned (.int .i64 (sizeRc s.l))∧Below w.heap.size w w' :=
 (area_any s.a s.n s.c s.l w h.ok.1.1 h.ok.1.2.1 (by have:=h.ok.1.2.2;omega)).mono fun e w' ⟨x,he,hx,hb'⟩=>by
  rw [he,hx.1 (vld_can h.can hb)];exact ⟨rfl,hb'⟩
theorem withinYes {w:World} {s t:Sc Rc} {S T:Sq} (h:CanS w S s) (k:CanS w T t) (hS:Board S) (hT:Board T) (hd:∀ x y,S x y→T x y) :
  Calls Tryz.prog 26 #[.agg #[.slice s.a s.n s.c],.agg #[.slice t.a t.n t.c]] w fun e w'=>e=.returned (.bool true)∧Below w.heap.size w w' :=
 (rwithin_any s.a s.n s.c s.l t.a t.n t.c t.l w h.ok.1 k.ok.1).mono fun e w' ⟨b,he,hi,hb⟩=>by
  obtain rfl:b=true:=hi.2 ⟨vld_can h.can hS,vld_can k.can hT,fun x y c=>(k.can.iff x y).2 (hd x y ((h.can.iff x y).1 c))⟩
  exact ⟨he,hb⟩
theorem hasYes {w:World} {s:Sc Rc} {S:Sq} {x y:Int} (h:CanS w S s) (hb:Board S) (hs:S x y) :
  Calls Tryz.prog 47 #[.agg #[.slice s.a s.n s.c],.int .i64 x,.int .i64 y] w fun e w'=>e=.returned (.bool true)∧Below w.heap.size w w' :=
 (rhas_any s.a s.n s.c s.l w x y h.ok.1).mono fun e w' ⟨b,he,hi,hb'⟩=>by
  obtain rfl:b=true:=hi.2 ⟨vld_can h.can hb,(h.can.iff x y).2 hs⟩
  exact ⟨he,hb'⟩
end Go.Proofs.YtancajcelmhnkaaGreatDoor
