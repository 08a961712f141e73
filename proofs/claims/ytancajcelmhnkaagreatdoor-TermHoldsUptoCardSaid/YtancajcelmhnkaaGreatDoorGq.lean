/- The keeper's histories. -/
import Derived.Test.YtancajcelmhnkaaGreatDoorGp
set_option maxRecDepth 100000
set_option maxHeartbeats 2000000
namespace Go.Proofs.YtancajcelmhnkaaGreatDoor
open Go.RowKit Go.Sort Go.Shelf
set_option linter.unusedVariables false
set_option linter.unusedSimpArgs false
theorem tape_apart {w:World} {b:Nat} {s:Sc Rc} (hT:Tape w b) (h:ScOk2 w s) (hl:s.l ≠ []):∀ c off,s.a=some ⟨c,off,none⟩→c ≠ b:=by
 rintro c off e rfl
 obtain ⟨ta,tl,tc,tk,hb,-⟩:=hT
 obtain ⟨q,t,hq⟩:=List.exists_cons_of_ne_nil hl
 have h3:(rcCells s.l)[3]? = some (.int .i64 q.2.2.2):=by rw [hq];rfl
 obtain ⟨c',o',e',hc⟩:=h.1.1 3 _ h3
 rw [e] at e'
 cases e'
 simp [World.cell?,hb] at hc
structure KHs (b:Nat) (crops years:Int) (w:World) (s:Sc RcdM):Prop where
 rws:Rws encRcd (hole b w) s 100
 cap:s.n≤s.c∧s.c≤maxLen∧(s.a=none→s.c=0)
 rows:∀ r ∈ s.l,ScOk2 (hole b w) r.s
 hist:HistOk (s.l.map RcdM.pl)
 can:∀ r ∈ s.l,IsCan (inRc r.s.l) r.s.l∧Board (inRc r.s.l)
 low:∀ r ∈ s.l,r.crop<crops∧r.year≤years
theorem KHs.nil (b:Nat) (crops years:Int) (w:World):KHs b crops years w ⟨none,0,0,[]⟩ :=
 ⟨⟨fun i v hi=>by simp [cellsOf] at hi,rfl,Nat.zero_le _,fun _=>rfl⟩,⟨Nat.le_refl _,by decide,fun _=>rfl⟩,(fun r hr=>by cases hr),histOk_nil,(fun r hr=>by cases hr),fun r hr=>by cases hr⟩
theorem KHs.holed {b:Nat} {crops years:Int} {w w':World} {s:Sc RcdM} (h:KHs b crops years w s) (hs:Below (hole b w).heap.size (hole b w) (hole b w')):KHs b crops years w' s :=
 ⟨h.rws.below hs,h.cap,fun r hr=>(h.rows r hr).below hs,h.hist,h.can,h.low⟩
theorem KHs.rh {b:Nat} {crops years:Int} {w:World} {s:Sc RcdM} (h:KHs b crops years w s):RH w s 100:=⟨h.rws.fill,h.cap,fun r hr=>(h.rows r hr).fill,h.hist,h.can⟩
def KHAddW (b:Nat) (crops years:Int) (w:World) (n:Nat) (e:Ending) (w':World):Prop:=∃ s:Sc RcdM,e=.returned (.tuple #[.slice s.a s.n s.c,.int .i64 0])∧KHs b crops years w' s∧s.n≤n+1∧(∀ g off,s.a=some ⟨g,off,none⟩→w.heap.size≤g)∧Below w.heap.size w w'∧Wrt w' s.a
theorem khaddW_any (b:Nat) (crops years:Int) (w:World) (s:Sc RcdM) (g:Sc Rc) (year crop:Int) (hT:Tape w b) (hl:KHs b crops years w s) (hn:s.n<100) (hg:ScOk2 w g) (hgc:IsCan (inRc g.l) g.l) (hgb:Board (inRc g.l)) (y1:0≤year) (y2:year≤years) (y3:years≤100) (q1:0≤crop) (q2:crop<crops) (q3:crops≤40) :
  Calls Tryz.prog 32 #[.slice s.a s.n s.c,.int .i64 year,.int .i64 crop,.agg #[.slice g.a g.n g.c]] w (KHAddW b crops years w s.n):=by
 refine (radd_any s g year crop w hl.rh hg hgc hgb y1 (by omega) q1 (by omega)).mono ?_
 rintro e w' ⟨⟨a,n,c,l⟩,rfl,hown,hlen,had,hrows,hcan,hb'⟩
 have hT':=hT.below hb'
 obtain ⟨a',c',he,hc1,hc2,hc3⟩:=own_form hown
 cases he
 have h1:s.l.length=s.n:=hl.rws.len
 have h2:=had.len
 rw [List.length_map,List.length_map] at h2
 dsimp only at hlen h2 hrows hcan had ⊢
 refine ⟨⟨a,n,c,l⟩,rfl,⟨⟨vw_of_own (own_hole hown hT.lt),hlen,by dsimp only;omega,?_⟩,⟨hc1,hc2,?_⟩,fun r hr=>?_,had.ok,hcan,fun r hr=>?_⟩,by dsimp only;omega,(fun g off e=>?_),hb',wrt_own hown⟩
 ·intro e
  rcases hc3 with ⟨-,h,-⟩ | ⟨g,h,-⟩
  ·exact h
  ·dsimp only at e;rw [e] at h;cases h
 ·intro e
  rcases hc3 with ⟨-,-,h⟩ | ⟨g,h,-⟩
  ·exact h
  ·dsimp only at e;rw [e] at h;cases h
 ·exact (hrows r hr).holed (tape_apart hT' (hrows r hr) (had.ok.mem (List.mem_map.2 ⟨r,hr,rfl⟩)).some)
 ·rcases had.src _ (List.mem_map.2 ⟨r,hr,rfl⟩) with ⟨q,hq,k1,k2⟩ | ⟨k1,k2⟩
  ·obtain ⟨p,hp,rfl⟩:=List.mem_map.1 hq
   have:=hl.low p hp
   simp only [RcdM.pl] at k1 k2
   omega
  ·simp only [RcdM.pl] at k1 k2
   omega
 ·dsimp only at e hc3
  rcases hc3 with ⟨h,-⟩ | ⟨g',h,h',-⟩
  ·rw [h] at e;cases e
  ·rw [h] at e;cases e;exact h'
def KHis (b:Nat) (crops years cnt:Int) (w:World) (e:Ending) (w':World):Prop:=∃ s:Sc RcdM,e=.returned (.slice s.a s.n s.c)∧KHs b crops years w' s∧s.n≤cnt∧(∀ g off,s.a=some ⟨g,off,none⟩→w.heap.size≤g)∧Steps1 b w w'
def KHisW (b:Nat) (crops years cnt:Int) (w:World) (e:Ending) (w':World):Prop:=∃ s:Sc RcdM,e=.returned (.slice s.a s.n s.c)∧KHs b crops years w' s∧s.n≤cnt∧(∀ g off,s.a=some ⟨g,off,none⟩→w.heap.size≤g)∧Steps1 b w w'∧Wrt w' s.a
theorem khistoryW_any (b:Nat) (A:Option Addr) (nc:Nat) (cc:Nat) (years cnt:Int) (w:World) (hT:Tape w b) (h0:0<nc) (h1:nc≤40) (h2:0≤years) (h3:years≤50) (h4:0≤cnt) (h5:cnt≤50) :
  Calls Tryz.prog 13 #[.pointer (some ⟨b,0,none⟩),.slice A nc cc,.int .i64 years,.int .i64 cnt] w (KHisW b nc years cnt w):=by
 have hlt:=hT.lt
 have T0:=hid hT
 clear hT
 go_enter Tryz.func13,Tryz.ntmps13
 go_wp2_with (go_at_call 16;refine (next_any _ _ _ T0.out (by omega) (by omega)).mono ?_;rintro e w1 ⟨r1,p1,q1,rfl,hs1⟩;have S1:=hid hs1;clear hs1)
 go_loopw [9,10] (fun v i wr=>∃ (m:Nat) (s:Sc RcdM),v=.slice s.a s.n s.c∧i=.int .i64 m∧(s.n:Int)+m≤cnt∧KHs b nc years wr s∧(∀ g off,s.a=some ⟨g,off,none⟩→w.heap.size≤g)∧Steps1 b w wr∧Wrt wr s.a) (fun _ i _=>(intOf i).toNat)
 case atStart=>exact ⟨r1.toNat,⟨none,0,0,[]⟩,rfl,by rw [Int.toNat_of_nonneg p1],by dsimp only;omega,KHs.nil _ _ _ _,(fun g off e=>by cases e),S1.out,wrt_nil _⟩
 case round =>
  obtain ⟨m,⟨a,n,c,l⟩,rfl,rfl,hm,hl,hfr,hs,hw⟩:=hrel
  have HW:=hid hw
  have HL:=hid hl;have HS:=hid hs;have HFR:=hid hfr
  dsimp only at hm
  clear hl hs hfr hw
  by_cases hgt:0<m
  ·go_wp2_with (first
    | (go_at_call 16;first
     | ((with_reducible refine (next_any _ _ _ S3.out.now (by omega) (by omega)).mono ?_);rintro e w4 ⟨r4,p4,q4,rfl,hs4⟩;have S4:=hid (sts S3.out hs4);have L4:=hid (L3.out.holed (hole_steps hs4));clear hs4)
     | ((with_reducible refine (next_any _ _ _ HS.out.now (by omega) (by omega)).mono ?_);rintro e w3 ⟨r3,p3,q3,rfl,hs3⟩;have S3:=hid (sts HS.out hs3);have L3:=hid (HL.out.holed (hole_steps hs3));clear hs3))
    | (go_at_call 31;refine (kregion_any b 9 2 w4 S4.out.now (by omega) (by omega) (by omega) (by omega)).mono ?_;rintro e w5 ⟨⟨a5,n5,c5,l5⟩,rfl,s5,i5,d5,f5,hs5⟩;have OK5:=hid s5;have I5:=hid i5;have D5:=hid d5;have S5:=hid (sts S4.out hs5);have L5:=hid (L4.out.holed (hole_steps hs5));clear s5 i5 d5 f5 hs5)
    | (go_at_call 32;refine (khaddW_any b nc years w5 ⟨a,n,c,l⟩ ⟨a5,n5,c5,l5⟩ r3 r4 S5.out.now L5.out (by dsimp only;omega) OK5.out.fill I5.out (fun x y k=>by have:=D5.out x y k;omega) p3 (by omega) (by omega) p4 (by omega) (by omega)).mono ?_;rintro e w6 ⟨⟨a6,n6,c6,l6⟩,rfl,hk6,hn6,hf6,hb6,hw6⟩;have HW6:=hid hw6;clear hw6;have HK6:=hid hk6;have HF6:=hid hf6;have S6:=hid (stb S5.out hb6);dsimp only at hn6;clear hk6 hf6 hb6))
   go_roundw
   case rel=>exact ⟨m - 1,⟨a6,n6,c6,l6⟩,rfl,by go_num,by dsimp only;omega,HK6.out,(fun g off e=>Nat.le_trans S5.out.size (HF6.out g off e)),S6.out,HW6.out⟩
   case measure=>simp [intOf];omega
  ·have hm0:m=0:=by omega
   subst hm0
   go_wp2
   go_ret
   exact ⟨⟨a,n,c,l⟩,rfl,HL.out,by dsimp only;omega,HFR.out,HS.out,HW.out⟩
theorem khistory_any (b:Nat) (A:Option Addr) (nc:Nat) (cc:Nat) (years cnt:Int) (w:World) (hT:Tape w b) (h0:0<nc) (h1:nc≤40) (h2:0≤years) (h3:years≤50) (h4:0≤cnt) (h5:cnt≤50) :
  Calls Tryz.prog 13 #[.pointer (some ⟨b,0,none⟩),.slice A nc cc,.int .i64 years,.int .i64 cnt] w (KHis b nc years cnt w) :=
 (khistoryW_any b A nc cc years cnt w hT h0 h1 h2 h3 h4 h5).mono fun e w' ⟨s,h1,h2,h3,h4,h5,_⟩=>⟨s,h1,h2,h3,h4,h5⟩
theorem infoCrp:(Tryz.prog.info? 44).map (fun i=>(i.zero,i.size,i.bytes))=some (some (.agg #[.string ⟨#[]⟩,.int .i64 0,.int .i64 0]),3,32):=by kernel_rfl
theorem elCrp:ElT Tryz.prog 30 44 3 32:=.mk' Tryz.underlying30 infoCrp rfl (by decide) (by decide)
theorem oneC_crp (c:Crp):OneC (encCrp c):=fun u hu=>by simp [encCrp] at hu;rcases hu with rfl | rfl | rfl <;> rfl
def KCrops (b:Nat) (w:World) (e:Ending) (w':World):Prop:=∃ s:Sc Crp,e=.returned (.slice s.a s.n s.c)∧Rws encCrp (hole b w') s 8∧Cat s.l∧(∀ c ∈ s.l,mkB c=true)∧3≤s.n∧(∀ g off,s.a=some ⟨g,off,none⟩→w.heap.size≤g)∧Steps1 b w w'
theorem names_at {b:Nat} {t:TypeId} {cs:Array Value} {w w1:World} (hT:Tape w b) (h:Steps1 b (w.alloc (.cells cs t)) w1):Steps1 b w w1∧Blk w1 w.heap.size t cs:=by
 have:=hT.lt
 exact ⟨(sal (Steps1.refl hT) _).trans h,(Blk.new w t cs).step h (by omega)⟩
theorem nmCells (k:Nat) (h:k<8):(#[.string ⟨#[98,97,114,108,101,121]⟩,.string ⟨#[99,108,111,118,101,114]⟩,.string ⟨#[103,114,97,115,115]⟩,.string ⟨#[109,97,105,122,101]⟩,.string ⟨#[111,97,116,115]⟩,.string ⟨#[114,121,101]⟩,.string ⟨#[118,101,116,99,104]⟩,.string ⟨#[119,104,101,97,116]⟩]:Array Value)[k]? = some (.string (nm8[k]'h)):=by
 match k,h with
 | 0,_=>rfl
 | 1,_=>rfl
 | 2,_=>rfl
 | 3,_=>rfl
 | 4,_=>rfl
 | 5,_=>rfl
 | 6,_=>rfl
 | 7,_=>rfl
 | n+8,h=>omega
theorem mkCells (k:Nat) (h:k<8):∃ m:Int,(#[.int .i64 0,.int .i64 0,.int .i64 0,.int .i64 2,.int .i64 20,.int .i64 8,.int .i64 1,.int .i64 31]:Array Value)[k]? = some (.int .i64 m)∧0≤m∧m≤31:=by
 match k,h with
 | 0,_=>exact ⟨_,rfl,by decide⟩
 | 1,_=>exact ⟨_,rfl,by decide⟩
 | 2,_=>exact ⟨_,rfl,by decide⟩
 | 3,_=>exact ⟨_,rfl,by decide⟩
 | 4,_=>exact ⟨_,rfl,by decide⟩
 | 5,_=>exact ⟨_,rfl,by decide⟩
 | 6,_=>exact ⟨_,rfl,by decide⟩
 | 7,_=>exact ⟨_,rfl,by decide⟩
 | n+8,h=>omega
theorem cat_snoc {l:List Crp} {k:Nat} {c:Crp} (h:Cat l) (hk:l.length=k) (h8:k<8) (hn:c.name=nm8[k]'h8) (hf:0≤c.family∧c.family≤40):Cat (l++[c]):=by
 subst hk
 refine ⟨by simp;omega,fun j hj=>?_,fun x hx=>?_⟩
 ·by_cases e:j<l.length
  ·rw [List.getElem_append_left e];exact h.name j e
  ·have:j=l.length:=by simp at hj;omega
   subst this
   simpa using hn
 ·rcases List.mem_append.1 hx with hx | hx
  ·exact h.fam x hx
  ·rw [List.mem_singleton.1 hx];exact hf
def KCropsW (b:Nat) (w:World) (e:Ending) (w':World):Prop:=∃ s:Sc Crp,e=.returned (.slice s.a s.n s.c)∧Rws encCrp (hole b w') s 8∧Cat s.l∧(∀ c ∈ s.l,mkB c=true)∧3≤s.n∧(∀ g off,s.a=some ⟨g,off,none⟩→w.heap.size≤g)∧Steps1 b w w'∧Wrt w' s.a∧s.n≤s.c∧s.c≤maxLen
theorem kcropsW_any (b:Nat) (w:World) (hT:Tape w b) :
  Calls Tryz.prog 12 #[.pointer (some ⟨b,0,none⟩)] w (KCropsW b w):=by
 have hlt:=hT.lt
 have T0:=hid hT
 clear hT
 go_enter Tryz.func12,Tryz.ntmps12
 go_wp2_with (go_at_call 48;refine (range_any _ _ _ _ (sal (Steps1.refl T0.out) _).now (by omega) (by omega) (by omega)).mono ?_;rintro e w1 ⟨r1,p1,q1,rfl,hs1⟩;have S1:=hid (names_at T0.out hs1).1;have BN:=hid (names_at T0.out hs1).2;clear hs1)
 go_loopw [4,13] (fun v i wr=>∃ (k:Nat) (l:List Crp),i=.int .i64 k∧(k:Int)≤r1∧l.length=k∧wr.ownsRow w1.heap.size 44 3 v k (cellsOf encCrp l)∧Cat l∧(∀ c ∈ l,mkB c=true)∧Steps1 b w1 wr) (fun _ i _=>(r1 - intOf i).toNat)
 case atStart=>exact ⟨0,[],rfl,by omega,rfl,World.ownsRow_nil _ _ _ _,⟨by simp,(fun k h=>by simp at h),(fun c hc=>by cases hc)⟩,(fun c hc=>by cases hc),Steps1.refl S1.out.now⟩
 case round =>
  obtain ⟨k,l,rfl,hk,hlen,hown,hcat,hmk,hs⟩:=hrel
  have HOWN:=hid hown;have HC:=hid hcat;have HM:=hid hmk;have HS:=hid hs;have HL:=hid hlen
  obtain ⟨av,cv,rfl,hcap,-,-⟩:=own_form hown
  clear hown hcat hmk hs hlen
  have yB:=BN.out.lt
  by_cases hgt:(k:Int)<r1
  ·have h8:k<8:=by omega
   have c0:wr.cell? ⟨w.heap.size,k,none⟩=some (.string (nm8[k]'h8)):=by
    rw [(BN.out.step HS.out (by omega)).cell k];exact nmCells k h8
   obtain ⟨nm,hnm⟩:∃ nm,nm8[k]'h8=nm:=⟨_,rfl⟩
   rw [hnm] at c0
   have HNM:=hid hnm
   clear hnm
   go_wp2_with (first
    | (go_at_call 16;first
     | ((with_reducible refine (next_any _ _ _ (sal S2.out _).now (by omega) (by omega)).mono ?_);rintro e w3 ⟨r3,p3,q3,rfl,hs3⟩;obtain ⟨j,rfl⟩:=Int.eq_ofNat_of_zero_le p3;obtain ⟨mk,hmk,hm1,hm2⟩:=mkCells j (by omega);have OW3:=hid (own_step OW2.out (names_at S2.out.now hs3).1 S1.out.now.lt);have S3:=hid (sts S2.out (names_at S2.out.now hs3).1);have c3:w3.cell? ⟨w2.heap.size,j,none⟩=some (.int .i64 mk):=((names_at S2.out.now hs3).2.cell j).trans hmk;clear hs3 hmk)
     | ((with_reducible refine (next_any _ _ _ HS.out.now (by omega) (by omega)).mono ?_);rintro e w2 ⟨r2,p2,q2,rfl,hs2⟩;have OW2:=hid (own_step HOWN.out hs2 S1.out.now.lt);have S2:=hid (sts HS.out hs2);clear hs2))
    | (refine bs_one elCrp (by decide) rfl (.tmp 26) rfl (encCrp ⟨nm,r2,mk⟩).toArray rfl rfl ?_)
    | (at_builtin;refine app_list elCrp rfl _ _ rfl w1.heap.size _ k _ rfl (own_keep OW3.out Bw.out) _ 1 _ (encCrp ⟨nm,r2,mk⟩) rfl (by first | exact vw_blk (Blk.fresh (by simp)) | exact vw_blk (Blk.fresh (by simp)).drew) (by simp) rfl (oneC_crp _) (by omega) (by have:=S3.out.size;simp;omega) ?_;intro v3 w4 hown3 hg3 _))
   go_roundw
   case rel =>
    refine ⟨k+1,l++[⟨nm,r2,mk⟩],by go_num,by omega,by simp [HL.out],?_,cat_snoc HC.out HL.out h8 HNM.out.symm ⟨p2,show r2≤40 by omega⟩,fun c hc=>?_,steps_app (sal S3.out _) (own_keep OW3.out Bw.out) hg3⟩
    ·have e:cellsOf encCrp (l++[⟨nm,r2,mk⟩])=cellsOf encCrp l++encCrp ⟨nm,r2,mk⟩:=by simp [cellsOf]
     rw [e];exact hown3
    ·rcases List.mem_append.1 hc with hc | hc
     ·exact HM.out c hc
     ·rw [List.mem_singleton.1 hc];exact decide_eq_true ⟨hm1,hm2⟩
   case measure=>simp [intOf];omega
  ·have hkr:(k:Int)=r1:=by omega
   go_wp2
   go_ret
   have hfr:=own_form HOWN.out
   obtain ⟨a',c',he,hq1,hq2,hc3⟩:=hfr
   cases he
   refine ⟨⟨av,k,cv,l⟩,rfl,⟨vw_of_own (own_hole HOWN.out S1.out.now.lt),HL.out,by dsimp only;omega,fun e=>?_⟩,HC.out,HM.out,by dsimp only;omega,fun g off e=>?_,sts S1.out HS.out,wrt_own HOWN.out,hq1,hq2⟩
   ·dsimp only at e
    rcases hc3 with ⟨-,h,-⟩ | ⟨g,h,-⟩
    ·exact h
    ·rw [e] at h;cases h
   ·dsimp only at e
    rcases hc3 with ⟨h,-⟩ | ⟨g',h,h',-⟩
    ·rw [h] at e;cases e
    ·rw [h] at e;cases e;exact Nat.le_trans S1.out.size h'
theorem kcrops_any (b:Nat) (w:World) (hT:Tape w b) :
  Calls Tryz.prog 12 #[.pointer (some ⟨b,0,none⟩)] w (KCrops b w) :=
 (kcropsW_any b w hT).mono fun e w' ⟨s,h1,h2,h3,h4,h5,h6,h7,_⟩=>⟨s,h1,h2,h3,h4,h5,h6,h7⟩
end Go.Proofs.YtancajcelmhnkaaGreatDoor
