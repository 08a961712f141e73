/- The reference's layers: a feature put into its place. (Printed by gen4/ins.py.) -/
import Derived.Test.YtancajcelmhnkaaGreatDoorGw
set_option maxRecDepth 100000
set_option maxHeartbeats 4000000
namespace Go.Proofs.YtancajcelmhnkaaGreatDoor
open Go.RowKit Go.Sort Go.Shelf
set_option linter.unusedVariables false
set_option linter.unusedSimpArgs false
structure RH (w:World) (s:Sc RcdM) (m:Nat):Prop where
 rws:Rws encRcd w s m
 cap:s.n≤s.c∧s.c≤maxLen∧(s.a=none→s.c=0)
 rows:∀ r ∈ s.l,ScOk2 w r.s
 hist:HistOk (s.l.map RcdM.pl)
 can:∀ r ∈ s.l,IsCan (inRc r.s.l) r.s.l∧Board (inRc r.s.l)
theorem RH.below {w w':World} {s:Sc RcdM} {m:Nat} (h:RH w s m) (hb:Below w.heap.size w w'):RH w' s m:=⟨h.rws.below hb,h.cap,fun r hr=>(h.rows r hr).below hb,h.hist,h.can⟩
theorem Rws.wide {α:Type} {enc:α→List Value} {w:World} {s:Sc α} {m k:Nat} (h:Rws enc w s m) (hk:m≤k):Rws enc w s k:=⟨h.vw,h.len,Nat.le_trans h.few hk,h.nil⟩
def Apart (v:Value) (s:Sc Rc):Prop:=s.l ≠ []→∀ g off,s.a=some ⟨g,off,none⟩→v.ownBlock ≠ some g
structure RIn (wr:World) (l:List RcdM) (year crop:Int) (A:Sq) (k:Nat) (mine:Sc Rc) (v:Value) (ol:List RcdM):Prop where
 mok:ScOk2 wr mine
 mcan:IsCan (mineS ((l.take k).map RcdM.pl) year crop A) mine.l
 mapart:Apart v mine
 rows:∀ r ∈ ol,ScOk2 wr r.s∧Apart v r.s
 can:∀ r ∈ ol,IsCan (inRc r.s.l) r.s.l∧Board (inRc r.s.l)
 put:HPut ((l.take k).map RcdM.pl) year crop A (ol.map RcdM.pl)
theorem RIn.below {w w':World} {l:List RcdM} {year crop:Int} {A:Sq} {k:Nat} {mine:Sc Rc} {v:Value} {ol:List RcdM} (h:RIn w l year crop A k mine v ol) (hb:Below w.heap.size w w'):RIn w' l year crop A k mine v ol :=
 ⟨h.mok.below hb,h.mcan,h.mapart,fun r hr=>⟨(h.rows r hr).1.below hb,(h.rows r hr).2⟩,h.can,h.put⟩
theorem RIn.keep {w:World} {l:List RcdM} {year crop:Int} {A:Sq} {k:Nat} {mine:Sc Rc} {v:Value} {ol:List RcdM} {r s:RcdM} (h:RIn w l year crop A k mine v ol) (hl:HistOk (l.map RcdM.pl)) (ht:(l.take (k+1)).map RcdM.pl=(l.take k).map RcdM.pl++[r.pl]) (hn:¬ (r.year=year∧r.crop=crop))
  (h1:s.year=r.year) (h2:s.crop=r.crop) (h3:∀ x y,inRc s.s.l x y↔inRc r.s.l x y∧(r.year=year→¬ A x y)) (h4:s.pl.Ok) (hs:ScOk2 w s.s) (ha:Apart v s.s) (hc:IsCan (inRc s.s.l) s.s.l∧Board (inRc s.s.l)):RIn w l year crop A (k+1) mine v (ol++[s]):=by
 refine ⟨h.mok,?_,h.mapart,fun t ht=>?_,fun t ht=>?_,?_⟩
 ·rw [ht];exact h.mcan.congr fun x y=>mineS_other hn x y
 ·rcases List.mem_append.1 ht with ht | ht
  ·exact h.rows t ht
  ·rw [List.mem_singleton.1 ht];exact ⟨hs,ha⟩
 ·rcases List.mem_append.1 ht with ht | ht
  ·exact h.can t ht
  ·rw [List.mem_singleton.1 ht];exact hc
 ·rw [ht,List.map_append]
  refine h.put.keep ?_ hn h1 h2 h3 h4
  rw [← ht,List.map_take]
  exact hl.pair.sublist (List.take_sublist _ _)
theorem RIn.drop {w:World} {l:List RcdM} {year crop:Int} {A:Sq} {k:Nat} {mine:Sc Rc} {v:Value} {ol:List RcdM} {r:RcdM} (h:RIn w l year crop A k mine v ol) (ht:(l.take (k+1)).map RcdM.pl=(l.take k).map RcdM.pl++[r.pl]) (hn:¬ (r.year=year∧r.crop=crop)) (he:∀ x y,¬ (inRc r.s.l x y∧(r.year=year→¬ A x y))):RIn w l year crop A (k+1) mine v ol:=by
 refine ⟨h.mok,?_,h.mapart,h.rows,h.can,?_⟩
 ·rw [ht];exact h.mcan.congr fun x y=>mineS_other hn x y
 ·rw [ht];exact h.put.drop he
theorem RIn.len {w:World} {l:List RcdM} {year crop:Int} {A:Sq} {k:Nat} {mine:Sc Rc} {v:Value} {ol:List RcdM} (h:RIn w l year crop A k mine v ol):ol.length≤k:=by
 have:=h.put.len
 simp at this
 omega
structure KFt (b:Nat) (num:Int) (w w':World) (f:FtrM):Prop where
 num:f.number=num
 ok:f.pl.Ok
 s:ScOk2 (hole b w') f.s
 can:IsCan (inRc f.s.l) f.s.l
 board:∀ x y,inRc f.s.l x y→0≤x∧x<9∧0≤y∧y<9
 fresh:∀ g off,f.s.a=some ⟨g,off,none⟩→w.heap.size≤g
 steps:Steps1 b w w'
structure KL (b:Nat) (w:World) (s:Sc FtrM):Prop where
 rws:Rws encFtr (hole b w) s 58
 cap:s.n≤s.c∧s.c≤maxLen∧(s.a=none→s.c=0)
 rows:∀ r ∈ s.l,ScOk2 (hole b w) r.s
 lay:LayOk (s.l.map FtrM.pl)
 can:∀ r ∈ s.l,IsCan (inRc r.s.l) r.s.l∧∀ x y,inRc r.s.l x y→0≤x∧x<9∧0≤y∧y<9
theorem KL.nil (b:Nat) (w:World):KL b w ⟨none,0,0,[]⟩ :=
 ⟨⟨fun i v hi=>by simp [cellsOf] at hi,rfl,Nat.zero_le _,fun _=>rfl⟩,⟨Nat.le_refl _,by decide,fun _=>rfl⟩,(fun r hr=>by cases hr),LayOk.of (by simp) (fun r hr=>by cases hr) .nil,fun r hr=>by cases hr⟩
structure KHs (b:Nat) (crops years:Int) (w:World) (s:Sc RcdM):Prop where
 rws:Rws encRcd (hole b w) s 100
 cap:s.n≤s.c∧s.c≤maxLen∧(s.a=none→s.c=0)
 rows:∀ r ∈ s.l,ScOk2 (hole b w) r.s
 hist:HistOk (s.l.map RcdM.pl)
 can:∀ r ∈ s.l,IsCan (inRc r.s.l) r.s.l∧Board (inRc r.s.l)
 low:∀ r ∈ s.l,r.crop<crops∧r.year≤years
theorem KHs.nil (b:Nat) (crops years:Int) (w:World):KHs b crops years w ⟨none,0,0,[]⟩ :=
 ⟨⟨fun i v hi=>by simp [cellsOf] at hi,rfl,Nat.zero_le _,fun _=>rfl⟩,⟨Nat.le_refl _,by decide,fun _=>rfl⟩,(fun r hr=>by cases hr),histOk_nil,(fun r hr=>by cases hr),fun r hr=>by cases hr⟩
theorem infoCrp:(Tryz.prog.info? 44).map (fun i=>(i.zero,i.size,i.bytes))=some (some (.agg #[.string ⟨#[]⟩,.int .i64 0,.int .i64 0]),3,32):=by kernel_rfl
theorem elCrp:ElT Tryz.prog 30 44 3 32:=.mk' Tryz.underlying30 infoCrp rfl (by decide) (by decide)
structure KW (b:Nat) (w':World) (rc:Sc Rc) (crop:Int) (cr:Sc Crp) (hi:Sc RcdM) (zo:Sc FtrM) (year:Int):Prop where
 rok:ScOk2 (hole b w') rc
 can:IsCan (inRc rc.l) rc.l
 board:∀ x y,inRc rc.l x y→0≤x∧x<8∧0≤y∧y<8
 cok:0≤crop∧crop<cr.n
 crs:Rws encCrp (hole b w') cr 8
 cat:Cat cr.l
 marks:∀ c ∈ cr.l,mkB c=true
 three:3≤cr.n
 his:KHs b cr.n 4 w' hi
 hin:hi.n≤5
 lay:KL b w' zo
 zon:zo.n≤3
 yok:0≤year∧year<6
def kwP (rc:Sc Rc) (crop:Int) (cr:Sc Crp) (hi:Sc RcdM) (zo:Sc FtrM) (year day:Int):PlM:=⟨year,day,0,crop,0,cr,hi,zo,rc⟩
section
variable {b:Nat} {w w':World} {rc:Sc Rc} {crop:Int} {cr:Sc Crp} {hi:Sc RcdM} {zo:Sc FtrM} {year:Int}
theorem LayOk.good {l:List Ftr} (h:LayOk l):LGood l:=⟨h.len,fun f hf=>⟨(h.mem hf).number,(h.mem hf).days,(h.mem hf).some,(h.mem hf).valid⟩,h.pair⟩
theorem KW.plg (h:KW b w rc crop cr hi zo year) (day:Int):PlG (hole b w) (kwP rc crop cr hi zo year day) where
 cr:=h.crs.wide (by decide)
 hi:=h.his.rws.wide (by decide)
 zo:=h.lay.rws.wide (by decide)
 rc:=h.rok
 cat:=h.cat.toM
 his:=h.his.rows
 hgood:=fun _=>h.his.hist.good
 zos:=h.lay.rows
 zgood:=h.lay.lay.good
theorem PlG.fill {p:PlM} (h:PlG (hole b w) p):PlG w p :=
 ⟨h.cr.fill,h.hi.fill,h.zo.fill,h.rc.fill,h.cat,fun r hr=>(h.his r hr).fill,h.hgood,fun r hr=>(h.zos r hr).fill,h.zgood⟩
theorem KW.bd (h:KW b w rc crop cr hi zo year):Board (inRc rc.l):=fun x y k=>by have:=h.board x y k;omega
theorem KW.vld (h:KW b w rc crop cr hi zo year):Vld rc.l:=vld_can h.can h.bd
theorem KW.err (h:KW b w rc crop cr hi zo year) {day:Int} (h1:0≤day) (h2:day≤36864) {t:Tm} (hc:chkT t=0):evErr (kwP rc crop cr hi zo year day) t=0:=by
 unfold evErr
 have y:=h.yok
 rw [if_neg (by rw [hc];exact fun k=>k rfl),if_neg,if_neg,if_neg,if_neg,if_neg,if_neg,if_neg]
 ·exact fun k=>k h.vld
 ·exact fun k=>k ⟨h1,h2⟩
 ·rintro ⟨f,hf,k⟩
  have:=(h.lay.lay.mem hf).kind
  unfold kindOk at k
  exact absurd this (of_decide_eq_false k)
 ·show ¬ (year<0∨100<year);omega
 ·exact fun k=>k h.his.hist.sort
 ·have hc:=h.cok
  have hlow:∀ r ∈ hi.l,0≤r.crop∧r.crop<cr.n:=fun r hr=>⟨(h.his.hist.mem (List.mem_map.2 ⟨r,hr,rfl⟩)).crop.1,(h.his.low r hr).1⟩
  rintro (k | ⟨r,hr,k⟩)
  ·have h3:crop<0∨(cr.n:Int)≤crop:=(wrongB_iff _ _).1 k
   omega
  ·have h3:r.crop<0∨(cr.n:Int)≤r.crop:=(wrongB_iff _ _).1 k
   have h4:=hlow r hr
   omega
 ·rintro ⟨c,hcc,k⟩
  rw [h.marks c hcc] at k;cases k
theorem chkT_ok {t:Tm} (hf:t.form=true) (hd:t.depth≤8) (hs:t.size≤40):chkT t=0:=by
 unfold chkT rightB
 rw [if_neg (by omega),hf,decide_eq_true hd];rfl
theorem KT.chk {d base:Nat} {t:TmM} (h:KT d base w t) (hd:d≤3):chkT t.pl=0 :=
 chkT_ok h.form (by have:=h.depth;omega) (by
  have:=h.size
  have:2 ^ (d+1)≤2 ^ 4:=Nat.pow_le_pow_right (by decide) (by omega)
  omega)
theorem KW.eval (h:KW b w rc crop cr hi zo year) {t:TmM} (ht:TmOk (hole b w) t) (hc:chkT t.pl=0) {day:Int} (h1:0≤day) (h2:day≤36864) :
  Calls Tryz.prog 20 #[.agg (encTm t).toArray,.agg #[.int .i64 0,.slice rc.a rc.n rc.c,.int .i64 crop,.int .i64 0],.int .i64 year,.slice cr.a cr.n cr.c,.slice hi.a hi.n hi.c,.slice zo.a zo.n zo.c,.int .i64 day] w fun e w' =>
   ∃ y n o:Sc Rc,e=.returned (.tuple #[.agg #[.slice y.a y.n y.c,.slice n.a n.n n.c,.slice o.a o.n o.c],.int .i64 0])∧CanS w' ((kwP rc crop cr hi zo year day).env.ev t.pl).yes y∧CanS w' ((kwP rc crop cr hi zo year day).env.ev t.pl).no n∧CanS w' ((kwP rc crop cr hi zo year day).env.rest ((kwP rc crop cr hi zo year day).env.ev t.pl)) o∧Below w.heap.size w w'∧(kwP rc crop cr hi zo year day).env.Fine ((kwP rc crop cr hi zo year day).env.ev t.pl):=by
 refine (peval_any (kwP rc crop cr hi zo year day) t w (h.plg day).fill ht.fill h.bd).mono ?_
 rintro e w' (⟨k,-⟩ | ⟨-,y,n,o,rfl,k1,k2,k3,k4,k5⟩)
 ·exact absurd (h.err h1 h2 hc) k
 ·exact ⟨y,n,o,rfl,k1,k2,k3,k4,k5⟩
end
theorem size_any (a:Option Addr) (n cap:Nat) (l:List Rc) (w:World) (hV:Vw w a (rcCells l)) (hn:l.length=n) (hc:n≤1000000) (hp:∀ q ∈ l,Prp q) :
  Calls Tryz.prog 61 #[.slice a n cap] w fun e w'=>e=.returned (.int .i64 (sizeRc l))∧Below w.heap.size w w':=by
 have HV:=hid hV;have HN:=hid hn;have HP:=hid hp
 clear hV hn hp
 go_enter Tryz.func61,Tryz.ntmps61
 go_wp2
 go_loopw [3,8] (fun s i wr=>∃ k:Nat,k≤n∧i=.int .i64 k∧s=.int .i64 (sizeRc (l.take k))∧Below w.heap.size w wr) (fun _ i _=>n - (intOf i).toNat)
 case atStart=>exact ⟨0,Nat.zero_le _,rfl,rfl,Below.refl _ _⟩
 case round =>
  obtain ⟨k,hk,rfl,rfl,hb⟩:=hrel
  have HB:=hid hb
  by_cases hlt:k<n
  ·have g1:k<l.length:=by have:=HN.out;omega
   obtain ⟨b,off,rfl,hbl,c0,c1,c2,c3⟩:=(HV.out.below hb).rc k g1
   have hs:=sizeRc_snoc (l.take k) l[k]
   rw [← List.take_succ_eq_append_getElem g1] at hs
   have HA:=prp_area (HP.out _ (List.getElem_mem g1))
   have HQ:=HP.out _ (List.getElem_mem g1)
   have hbd:=sizeRc_bd (l:=l.take k) (fun q hq=>HP.out q (List.mem_of_mem_take hq))
   have hkl:(l.take k).length≤1000000:=by rw [List.length_take];omega
   obtain ⟨q,hq⟩:∃ q,l[k]=q:=⟨_,rfl⟩
   rw [hq] at c0 c1 c2 c3 hs HA HQ
   clear hq hb
   obtain ⟨q0,q1,q2,q3⟩:=q
   dsimp only at c0 c1 c2 c3 hs HA
   obtain ⟨S,hS⟩:∃ S,sizeRc (l.take k)=S:=⟨_,rfl⟩
   rw [hS] at hs hbd ⊢
   have HSS:=hid hS;have HS:=hid hs
   obtain ⟨p0,p1,p2,p3,p4,p5⟩:=HQ
   dsimp only at p0 p1 p2 p3 p4 p5
   have d1:wrap64 (q2 - q0)=q2 - q0:=IntWalk.wrap64_in _ (by omega)
   have d2:wrap64 (q3 - q1)=q3 - q1:=IntWalk.wrap64_in _ (by omega)
   have d3:wrap64 ((q2 - q0) * (q3 - q1))=(q2 - q0) * (q3 - q1):=IntWalk.wrap64_in _ (by omega)
   have d4:wrap64 (S+(q2 - q0) * (q3 - q1))=S+(q2 - q0) * (q3 - q1):=IntWalk.wrap64_in _ (by omega)
   clear hS hs hbd
   go_wp2
   go_roundw
   case rel=>exact ⟨k+1,by omega,by go_num,by rw [HS.out];exact congrArg _ d4,(by (repeat (with_reducible first | exact HB.out | exact Below.refl _ _ | refine bdr ?_ | refine bdn ?_ _ | refine bal ?_ _)))⟩
   case measure=>simp [intOf];omega
  ·have hge:l.take k=l:=List.take_of_length_le (by have:=HN.out;omega)
   rw [hge]
   clear hge
   go_wp2
   go_ret
   exact ⟨rfl,hb⟩
def areaOf (l:List Rc) (x:Int):Prop:=(Vld l→x=sizeRc l)∧(¬ Vld l→x=0)
theorem area_any (a:Option Addr) (n cap:Nat) (l:List Rc) (w:World) (hV:Vw w a (rcCells l)) (hn:l.length=n) (hc:n≤9223372036854775807) :
  Calls Tryz.prog 24 #[.agg #[.slice a n cap]] w fun e w'=>∃ x,e=.returned (.int .i64 x)∧areaOf l x∧Below w.heap.size w w':=by
 have HC:RowKit.Hid (∀ W,Below w.heap.size w W→Calls Tryz.prog 59 #[.agg #[.slice a n cap]] W (Says W (Vld l))):=fun W hW=>rvalid_any a n cap l W (hV.below hW) hn hc
 have HZ:RowKit.Hid (∀ W,Below w.heap.size w W→Vld l→Calls Tryz.prog 61 #[.slice a n cap] W fun e w'=>e=.returned (.int .i64 (sizeRc l))∧Below W.heap.size W w'):=fun W hW hv =>
  size_any a n cap l W (hV.below hW) hn (by have:=hv.1;omega) hv.2.1
 clear hV hn hc
 by_cases hv:Vld l
 ·have HVV:=hid hv
  clear hv
  go_enter Tryz.func24,Tryz.ntmps24
  go_wp2_with (first
   | (go_at_call 59;refine (HC.out _ Bw.out).mono ?_;rintro e w1 ⟨b,rfl,hv,hb1⟩;obtain rfl:b=true:=hv.2 HVV.out;clear hv;have c0:w1.cell? ⟨w.heap.size,0,none⟩=some (.slice a n cap):=bc1 hb1 (by simp [go_sem]);have y1:=hb1.size;(try simp at y1))
   | (go_at_call 61;refine (HZ.out _ (btr Bw.out hb1) HVV.out).mono ?_;rintro e w2 ⟨rfl,hb2⟩))
  go_ret
  exact ⟨_,rfl,⟨fun _=>rfl,fun h=>absurd HVV.out h⟩,btr (btr Bw.out hb1) hb2⟩
 ·have HVV:=hid hv
  clear hv
  go_enter Tryz.func24,Tryz.ntmps24
  go_wp2_with (go_at_call 59;refine (HC.out _ Bw.out).mono ?_;rintro e w1 ⟨b,rfl,hv,hb1⟩;obtain rfl:b=false:=by cases b with | true=>exact absurd (hv.1 rfl) HVV.out | false=>rfl)
  go_ret
  exact ⟨0,rfl,⟨fun h=>absurd h HVV.out,fun _=>rfl⟩,btr Bw.out hb1⟩
theorem areaS {w:World} {s:Sc Rc} {S:Sq} (h:CanS w S s) (hb:∀ x y,S x y→0≤x∧x<10∧0≤y∧y<10) :
  Calls Tryz.prog 24 #[.agg #[.slice s.a s.n s.c]] w fun e w'=>e=.returned (.int .i64 (sizeRc s.l))∧Below w.heap.size w w' :=
 (area_any s.a s.n s.c s.l w h.ok.1.1 h.ok.1.2.1 (by have:=h.ok.1.2.2;omega)).mono fun e w' ⟨x,he,hx,hb'⟩=>by
  rw [he,hx.1 (vld_can h.can hb)];exact ⟨rfl,hb'⟩
theorem hasYes {w:World} {s:Sc Rc} {S:Sq} {x y:Int} (h:CanS w S s) (hb:Board S) (hs:S x y) :
  Calls Tryz.prog 47 #[.agg #[.slice s.a s.n s.c],.int .i64 x,.int .i64 y] w fun e w'=>e=.returned (.bool true)∧Below w.heap.size w w' :=
 (rhas_any s.a s.n s.c s.l w x y h.ok.1).mono fun e w' ⟨b,he,hi,hb'⟩=>by
  obtain rfl:b=true:=hi.2 ⟨vld_can h.can hb,(h.can.iff x y).2 hs⟩
  exact ⟨he,hb'⟩
section
variable {b:Nat} {w w':World} {rc:Sc Rc} {crop:Int} {cr:Sc Crp} {hi h2:Sc RcdM} {zo:Sc FtrM} {year:Int}
end
end Go.Proofs.YtancajcelmhnkaaGreatDoor
