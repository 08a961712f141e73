/- ref15.Squares of a year,and Known. -/
import Derived.Test.YtancajcelmhnkaaGreatDoorHis
namespace Go.Proofs.YtancajcelmhnkaaGreatDoor
open Go.RowKit Go.Sort Go.Shelf
set_option linter.unusedVariables false
set_option linter.unusedSimpArgs false
def recsY (l : List RcdM) (year : Int) : Sq:=fun x y=>∃ r ∈ l,r.year = year∧inRc r.s.l x y
theorem recsY_succ {l : List RcdM} {k : Nat} (h : k < l.length) (year : Int) (x y : Int) : recsY (l.take (k + 1)) year x y↔recsY (l.take k) year x y∨(l[k].year = year∧inRc l[k].s.l x y):=by
  unfold recsY
  rw [List.take_succ_eq_append_getElem h]
  constructor
  · rintro ⟨r,hr,h1,h2⟩
    rcases List.mem_append.1 hr with hr | hr
    · exact .inl ⟨r,hr,h1,h2⟩
    · rw [List.mem_singleton.1 hr] at h1 h2;exact .inr ⟨h1,h2⟩
  · rintro (⟨r,hr,h1,h2⟩ | ⟨h1,h2⟩)
    · exact ⟨r,List.mem_append.2 (.inl hr),h1,h2⟩
    · exact ⟨_,List.mem_append.2 (.inr (List.mem_singleton.2 rfl)),h1,h2⟩
theorem recsY_board {l : List RcdM} {year : Int} (h : ∀ r ∈ l,Board (inRc r.s.l)) (k : Nat) : Board (recsY (l.take k) year):=fun x y ⟨r,hr,_,h2⟩=>h r (List.mem_of_mem_take hr) x y h2
theorem sc_nil (w : World) : ScOk2 w ⟨none,0,0,[]⟩:=⟨⟨fun i v hi=>by simp [rcCells,cellsOf] at hi,rfl,Nat.zero_le _⟩,fun _=>rfl,fun h=>absurd rfl h⟩
def SqI (W : World) (s : Sc RcdM) (year : Int) (v i : Value) (wr : World) : Prop :=
  ∃ (k : Nat) (a : Option Addr) (n c : Nat) (l : List Rc),k≤s.n∧i = .int .i64 k∧v = .slice a n c∧ScOk2 wr ⟨a,n,c,l⟩∧IsCan (recsY (s.l.take k) year) l∧Below W.heap.size W wr∧∀ b off,a = some ⟨b,off,none⟩→W.heap.size≤b
set_option maxRecDepth 100000 in
set_option maxHeartbeats 4000000 in
theorem squares_any (s : Sc RcdM) (year : Int) (w : World) (hR : Rws encRcd w s 200) (hr : ∀ r ∈ s.l,ScOk2 w r.s) (hb : ∀ r ∈ s.l,Board (inRc r.s.l)) :
    Calls Tryz.prog 65 #[.slice s.a s.n s.c,.slice none 0 0,.int .i64 year,.int .i64 (-1),.int .i64 0] w fun e w'=>∃ a n c l,e = .returned (.slice a n c)∧ScOk2 w' ⟨a,n,c,l⟩∧IsCan (recsY s.l year) l∧Below w.heap.size w w'∧n≤120∧∀ b off,a = some ⟨b,off,none⟩→w.heap.size≤b:=by
  obtain ⟨A,N,C,L⟩:=s
  have HR:=Lib.hid hR;have HS:=Lib.hid hr;have HBD:=Lib.hid hb
  have hn : L.length = N:=hR.len
  have HN:=Lib.hid hn
  have hm : N≤200:=hR.few
  clear hR hr hb hn
  dsimp only
  go_enter Tryz.func65,Tryz.ntmps65
  go_wp2
  go_loopw [11,16] (fun v i wr=>SqI w ⟨A,N,C,L⟩ year v i wr) (fun _ i _=>N - (intOf i).toNat)
  case atStart=>exact ⟨0,none,0,0,[],Nat.zero_le _,rfl,rfl,sc_nil w,isCan_nil (fun x y ⟨r,hr,_⟩=>by cases hr),Below.refl _ _,fun b off e=>by cases e⟩
  case round =>
    obtain ⟨k,a,n,c,l,hk,rfl,rfl,hok,hcan,hbw,hfr⟩:=hrel
    have FR:=Lib.hid hfr;have OK:=Lib.hid hok;have CAN:=Lib.hid hcan;have HB:=Lib.hid hbw
    have yb:=hbw.size
    dsimp only at hk
    clear hok hcan hbw hfr
    by_cases hlt : k < N
    · have hke : k < L.length:=by rw [HN.out];exact hlt
      obtain ⟨b,off,rfl,hbl,hrg⟩:=HR.out.vw.range (k:=3) (fun x _=>encRcd_len x) (by omega) k hke
      have HRG:=Lib.hid (rangeAt_below hrg HB.out)
      have HSK:=Lib.hid ((HS.out _ (List.getElem_mem hke)).below HB.out)
      have HSU:=Lib.hid (recsY_succ hke year)
      have HBK:=Lib.hid (recsY_board (year:=year) HBD.out (k + 1))
      clear hrg
      obtain ⟨r,hr⟩ : ∃ r,L[k] = r:=⟨_,rfl⟩
      rw [hr] at HRG HSK HSU
      clear hr hke
      obtain ⟨y0,cr,ra,rn,rc,rl⟩:=r
      dsimp only [encRcd] at HRG HSK HSU
      by_cases hy : y0 = year
      · subst hy
        have HK:=Lib.hid fun W' (hW' : Below wr.heap.size wr W')=>(comb_any a n c l ra rn rc rl 1 (recsY (L.take (k + 1)) y0) W' (OK.out.below hW').1 (HSK.out.below hW').1 (fun x y=>by
          rw [keep_or,HSU.out x y,CAN.out.iff x y]
          exact ⟨fun h=>h.elim .inl fun h=>.inr ⟨rfl,h⟩,fun h=>h.elim .inl fun h=>.inr h.2⟩)).mono fun e w' h=>h.toB HBK.out
        go_wp2_with (first
          | (refine wpList_load_mid rfl 47 (.tmp 18) rfl b (off + k * 3) rfl [.int .i64 y0,.int .i64 cr,.slice ra rn rc] _ HRG.out Tryz.underlying47 rfl (by kernel_rfl) ?_)
          | (refine st_new rfl 47 (.tmp 13) (.tmp 19) rfl #[.int .i64 y0,.int .i64 cr,.slice ra rn rc] _ _ rfl rfl (by kernel_rfl) rfl (by rw [List.all_toArray];rfl) ?_)
          | (go_at_call 62;refine (HK.out _ (by (repeat (with_reducible first | exact Below.refl _ _ | refine bdr ?_ | refine bdn ?_ _ | refine bal ?_ _)))).mono ?_;rintro e w2 ⟨a2,n2,c2,l2,rfl,h1,h2,h3,h4,h5⟩;have FR2 : RowKit.Hid (∀ b off,a2 = some ⟨b,off,none⟩→wr.heap.size≤b):=fun b off e=>by { have:=h4 b off e;simp at this;omega };have OK2:=Lib.hid h1;have CAN2:=Lib.hid h2;have Q2 : RowKit.Hid (Below wr.heap.size wr w2):=btr (by (repeat (with_reducible first | exact Below.refl _ _ | refine bdr ?_ | refine bdn ?_ _ | refine bal ?_ _))) h3;clear h1 h2 h3 h4 h5))
        go_roundw
        case rel=>exact ⟨k + 1,a2,n2,c2,l2,by dsimp only;omega,by go_num,rfl,OK2.out,CAN2.out,btr HB.out Q2.out,fun b off e=>by have:=FR2.out b off e;omega⟩
        case measure=>simp [intOf];omega
      · have my : ((y0 : Int) == year) = false:=by simpa using hy
        have HY:=Lib.hid hy
        clear hy
        go_wp2_with (first
          | (refine wpList_load_mid rfl 47 (.tmp 18) rfl b (off + k * 3) rfl [.int .i64 y0,.int .i64 cr,.slice ra rn rc] _ HRG.out Tryz.underlying47 rfl (by kernel_rfl) ?_)
          | (refine st_new rfl 47 (.tmp 13) (.tmp 19) rfl #[.int .i64 y0,.int .i64 cr,.slice ra rn rc] _ _ rfl rfl (by kernel_rfl) rfl (by rw [List.all_toArray];rfl) ?_))
        go_roundw
        case rel=>exact ⟨k + 1,a,n,c,l,by dsimp only;omega,by go_num,rfl,OK.out.below (by (repeat (with_reducible first | exact Below.refl _ _ | refine bdr ?_ | refine bdn ?_ _ | refine bal ?_ _))),CAN.out.congr fun x y=>((HSU.out x y).trans ⟨fun h=>h.elim id fun h=>absurd h.1 HY.out,.inl⟩).symm,btr HB.out (by (repeat (with_reducible first | exact Below.refl _ _ | refine bdr ?_ | refine bdn ?_ _ | refine bal ?_ _))),FR.out⟩
        case measure=>simp [intOf];omega
    · obtain rfl : k = N:=by omega
      go_wp2
      go_ret
      have e : L.take k = L:=List.take_of_length_le (by have:=HN.out;omega)
      have hc:=CAN.out
      dsimp only at hc ⊢
      rw [e] at hc
      have hbd : Board (recsY L year):=fun x y ⟨r,hr,_,h2⟩=>HBD.out r hr x y h2
      have:=can_120 hc hbd
      have h2:=OK.out.1.2.1
      dsimp only at h2
      exact ⟨a,n,c,rfl,l,OK.out,hc,HB.out,by omega,FR.out⟩
set_option maxRecDepth 100000 in
set_option maxHeartbeats 4000000 in
theorem known15_any (s : Sc RcdM) (year : Int) (w : World) (hR : Rws encRcd w s 200) (hcap : s.n≤s.c∧s.c≤maxLen) (hr : ∀ r ∈ s.l,ScOk2 w r.s) (hh : HistOk (s.l.map RcdM.pl)) (hb : ∀ r ∈ s.l,Board (inRc r.s.l)) (y1 : 0≤year) (y2 : year≤100) :
    Calls Tryz.prog 29 #[.slice s.a s.n s.c,.int .i64 year] w (RegP w (recsY s.l year)):=by
  obtain ⟨W,hW⟩ : ∃ W,w.alloc (.cells #[.slice none 0 0] 38) = W:=⟨_,rfl⟩
  have B0 : RowKit.Hid (Blk W w.heap.size 38 #[.slice none 0 0]):=by show Blk _ _ _ _;rw [← hW];exact Blk.new w _ _
  have BB : RowKit.Hid (Below w.heap.size w W):=by show Below _ _ _;rw [← hW];exact (by (repeat (with_reducible first | exact Below.refl _ _ | refine bdr ?_ | refine bdn ?_ _ | refine bal ?_ _)))
  have HC:=Lib.hid fun W' (hW' : Below w.heap.size w W')=>(rhcheck_any s W' (hR.below hW') hcap (fun r h=>(hr r h).below hW') hh.good).mono fun e w' ⟨x,h1,h2,h3⟩=>(⟨by rw [h1,h2.1 hh.sort],h3⟩ : e = Ending.returned (.int .i64 0)∧Below W'.heap.size W' w')
  have HS:=Lib.hid fun W' (hW' : Below w.heap.size w W')=>squares_any s year W' (hR.below hW') (fun r h=>(hr r h).below hW') hb
  have y0 : w.heap.size < W.heap.size:=B0.out.lt
  have n1 : ¬ year < 0:=by omega
  have n2 : ¬ (100 : Int) < year:=by omega
  obtain ⟨S,hS⟩ : ∃ S,recsY s.l year = S:=⟨_,rfl⟩
  rw [hS] at HS ⊢
  clear hR hcap hr hh hb hS
  go_enter Tryz.func29,Tryz.ntmps29
  go_wp2_with (first
    | (go_at_call 57;refine (HC.out _ BB.out).mono ?_;rintro e w1 ⟨rfl,hb1⟩;have B1:=Lib.hid (B0.out.below hb1);have BB1:=Lib.hid (btr BB.out hb1);have v1:=hb1.size;clear hb1)
    | (go_at_call 65;refine (HS.out _ BB1.out).mono ?_;rintro e w2 ⟨a,n,c,l,rfl,h1,h2,h3,h4,h5⟩;have OK2:=Lib.hid h1;have CAN2:=Lib.hid h2;have B2:=Lib.hid (B1.out.below h3);have BB2:=Lib.hid (btr BB1.out h3);have v2:=h3.size;have FR2:=Lib.hid h5;clear h1 h2 h3 h5)
    | (go_at_call 64;refine (bound_any a n c _ h4).mono ?_;rintro e w3 ⟨rfl,hb3⟩;have B3:=Lib.hid (B2.out.below hb3);have OK3:=Lib.hid (OK2.out.below hb3);have BB3:=Lib.hid (btr BB2.out hb3);clear hb3)
    | (refine wpList_store_row rfl 38 (.tmp 4) (.tmp 24) rfl w.heap.size #[.slice a n c] rfl rfl _ _ B3.out rgInfo rfl (rg_one _ _ _) ?_))
  have BR:=setRow_heap w3 w.heap.size _ #[.slice a n c] _ _ B3.out
  refine bodyPost_ret (v:=.tuple #[.agg #[.slice a n c],.int .i64 0]) (by simp [results,Tryz.results29,go_sem,Blk.cell BR]) rfl ?_
  exact ⟨a,n,c,l,rfl,ok_setRow OK3.out fun b off e=>by have:=FR2.out b off e;omega,CAN2.out,below_setRow BB3.out (Nat.le_refl _) _,fun b off e=>by have:=FR2.out b off e;omega⟩
end Go.Proofs.YtancajcelmhnkaaGreatDoor
