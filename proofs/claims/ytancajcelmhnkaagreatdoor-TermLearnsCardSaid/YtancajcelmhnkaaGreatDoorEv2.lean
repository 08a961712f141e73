/- Eval in the world of law 16,with another history. -/
import Derived.Test.YtancajcelmhnkaaGreatDoorGy
namespace Go.Proofs.YtancajcelmhnkaaGreatDoor
open Go.RowKit Go.Sort Go.Shelf
set_option linter.unusedVariables false
section
variable {b : Nat} {w w' : World} {rc : Sc Rc} {crop : Int} {cr : Sc Crp} {hi h2 : Sc RcdM} {zo : Sc FtrM} {year : Int}
theorem KW.plg2 (h : KW b w rc crop cr hi zo year) (k : KHs b cr.n 4 w h2) (day : Int) : PlG (hole b w) (kwP rc crop cr h2 zo year day) where
  cr:=(h.plg day).cr
  hi:=k.rws.wide (by decide)
  zo:=(h.plg day).zo
  rc:=(h.plg day).rc
  cat:=(h.plg day).cat
  his:=k.rows
  hgood:=fun _=>k.hist.good
  zos:=(h.plg day).zos
  zgood:=(h.plg day).zgood
theorem KW.err2 (h : KW b w rc crop cr hi zo year) (k : KHs b cr.n 4 w h2) {day : Int} (h1 : 0≤day) (h3 : day≤36864) {t : Tm} (hc : chkT t = 0) : evErr (kwP rc crop cr h2 zo year day) t = 0:=by
  unfold evErr
  have y:=h.yok
  rw [if_neg (by rw [hc];exact fun k=>k rfl),if_neg,if_neg,if_neg,if_neg,if_neg,if_neg,if_neg]
  · exact fun k=>k h.vld
  · exact fun k=>k ⟨h1,h3⟩
  · rintro ⟨f,hf,k⟩
    have:=(h.lay.lay.mem hf).kind
    unfold kindOk at k
    exact absurd this (of_decide_eq_false k)
  · show ¬ (year < 0∨100 < year);omega
  · exact fun q=>q k.hist.sort
  · have hc:=h.cok
    have hlow : ∀ r ∈ h2.l,0≤r.crop∧r.crop < cr.n:=fun r hr=>⟨(k.hist.mem (List.mem_map.2 ⟨r,hr,rfl⟩)).crop.1,(k.low r hr).1⟩
    rintro (q | ⟨r,hr,q⟩)
    · have h3 : crop < 0∨(cr.n : Int)≤crop:=(wrongB_iff _ _).1 q
      omega
    · have h3 : r.crop < 0∨(cr.n : Int)≤r.crop:=(wrongB_iff _ _).1 q
      have h4:=hlow r hr
      omega
  · rintro ⟨c,hcc,q⟩
    rw [h.marks c hcc] at q;cases q
theorem KW.eval2 (h : KW b w rc crop cr hi zo year) (hk : KHs b cr.n 4 w h2) {t : TmM} (ht : TmOk (hole b w) t) (hc : chkT t.pl = 0) {day : Int} (h1 : 0≤day) (h3 : day≤36864) :
    Calls Tryz.prog 20 #[.agg (encTm t).toArray,.agg #[.int .i64 0,.slice rc.a rc.n rc.c,.int .i64 crop,.int .i64 0],.int .i64 year,.slice cr.a cr.n cr.c,.slice h2.a h2.n h2.c,.slice zo.a zo.n zo.c,.int .i64 day] w fun e w' =>
      ∃ y n o : Sc Rc,e = .returned (.tuple #[.agg #[.slice y.a y.n y.c,.slice n.a n.n n.c,.slice o.a o.n o.c],.int .i64 0])∧CanS w' ((kwP rc crop cr h2 zo year day).env.ev t.pl).yes y∧CanS w' ((kwP rc crop cr h2 zo year day).env.ev t.pl).no n∧CanS w' ((kwP rc crop cr h2 zo year day).env.rest ((kwP rc crop cr h2 zo year day).env.ev t.pl)) o∧Below w.heap.size w w'∧(kwP rc crop cr h2 zo year day).env.Fine ((kwP rc crop cr h2 zo year day).env.ev t.pl):=by
  refine (peval_any (kwP rc crop cr h2 zo year day) t w (h.plg2 hk day).fill ht.fill h.bd).mono ?_
  rintro e w' (⟨k,-⟩ | ⟨-,y,n,o,rfl,k1,k2,k3,k4,k5⟩)
  · exact absurd (h.err2 hk h1 h3 hc) k
  · exact ⟨y,n,o,rfl,k1,k2,k3,k4,k5⟩
end
def KHAdd2 (b : Nat) (crops years : Int) (w : World) (l : List RcdM) (year crop : Int) (A : Sq) (e : Ending) (w' : World) : Prop:=∃ s : Sc RcdM,e = .returned (.tuple #[.slice s.a s.n s.c,.int .i64 0])∧KHs b crops years w' s∧HAdded (l.map RcdM.pl) year crop A (s.l.map RcdM.pl)∧(∀ g off,s.a = some ⟨g,off,none⟩→w.heap.size≤g)∧Below w.heap.size w w'
theorem khadd2_any (b : Nat) (crops years : Int) (w : World) (s : Sc RcdM) (g : Sc Rc) (year crop : Int) (hT : Tape w b) (hl : KHs b crops years w s) (hn : s.n < 100) (hg : ScOk2 w g) (hgc : IsCan (inRc g.l) g.l) (hgb : Board (inRc g.l)) (y1 : 0≤year) (y2 : year≤years) (y3 : years≤100) (q1 : 0≤crop) (q2 : crop < crops) (q3 : crops≤40) :
    Calls Tryz.prog 32 #[.slice s.a s.n s.c,.int .i64 year,.int .i64 crop,.agg #[.slice g.a g.n g.c]] w (KHAdd2 b crops years w s.l year crop (inRc g.l)):=by
  refine (radd_any s g year crop w hl.rh hg hgc hgb y1 (by omega) q1 (by omega)).mono ?_
  rintro e w' ⟨⟨a,n,c,l⟩,rfl,hown,hlen,had,hrows,hcan,hb'⟩
  have hT':=hT.below hb'
  obtain ⟨a',c',he,hc1,hc2,hc3⟩:=own_form hown
  cases he
  have h1 : s.l.length = s.n:=hl.rws.len
  have h2:=had.len
  rw [List.length_map,List.length_map] at h2
  dsimp only at hlen h2 hrows hcan had ⊢
  refine ⟨⟨a,n,c,l⟩,rfl,⟨⟨vw_of_own (own_hole hown hT.lt),hlen,by dsimp only;omega,?_⟩,⟨hc1,hc2,?_⟩,fun r hr=>?_,had.ok,hcan,fun r hr=>?_⟩,had,(fun g off e=>?_),hb'⟩
  · intro e
    rcases hc3 with ⟨-,h,-⟩ | ⟨g,h,-⟩
    · exact h
    · dsimp only at e;rw [e] at h;cases h
  · intro e
    rcases hc3 with ⟨-,-,h⟩ | ⟨g,h,-⟩
    · exact h
    · dsimp only at e;rw [e] at h;cases h
  · exact (hrows r hr).holed (tape_apart hT' (hrows r hr) (had.ok.mem (List.mem_map.2 ⟨r,hr,rfl⟩)).some)
  · rcases had.src _ (List.mem_map.2 ⟨r,hr,rfl⟩) with ⟨q,hq,k1,k2⟩ | ⟨k1,k2⟩
    · obtain ⟨p,hp,rfl⟩:=List.mem_map.1 hq
      have:=hl.low p hp
      simp only [RcdM.pl] at k1 k2
      omega
    · simp only [RcdM.pl] at k1 k2
      omega
  · dsimp only at e hc3
    rcases hc3 with ⟨h,-⟩ | ⟨g',h,h',-⟩
    · rw [h] at e;cases e
    · rw [h] at e;cases e;exact h'
end Go.Proofs.YtancajcelmhnkaaGreatDoor
