/- slices.DeleteFunc at features;feature.On. -/
import Derived.Test.YtancajcelmhnkaaGreatDoorFon
set_option maxRecDepth 100000
set_option maxHeartbeats 4000000
namespace Go.Proofs.YtancajcelmhnkaaGreatDoor
open Go.RowKit Go.Sort Go.Shelf
set_option linter.unusedVariables false
set_option linter.unusedSimpArgs false
def setL:List Value→Nat→List Value→List Value
 | xs,_,[]=>xs
 | xs,o,v :: r=>setL (xs.set o v) (o+1) r
theorem setL_append:∀ (cs A R:List Value) (o:Nat),setL (A++R) (A.length+o) cs=A++setL R o cs
 | [],A,R,o=>rfl
 | v :: r,A,R,o=>by
  have e:(A++R).set (A.length+o) v=A++R.set o v:=by rw [List.set_append_right _ _ (by omega)];congr 2;omega
  rw [setL,setL,e,show A.length+o+1=A.length+(o+1) by omega,setL_append r A]
theorem setL_zero:∀ (cs ys R:List Value),cs.length=ys.length→setL (ys++R) 0 cs=cs++R
 | [],[],R,_=>rfl
 | v :: r,y :: ys,R,h=>by
  rw [setL,List.cons_append,List.set_cons_zero]
  have:=setL_append r [v] (ys++R) 0
  simp only [List.length_singleton,List.singleton_append] at this
  rw [show (0:Nat)+1=1+0 from rfl,this,setL_zero r ys R (by simpa using h)]
  rfl
theorem setL_cells {α:Type} {enc:α→List Value} {k:Nat} (hk:∀ x,(enc x).length=k):∀ (l:List α) (i:Nat) (x:α),i<l.length→setL (cellsOf enc l) (i * k) (enc x)=cellsOf enc (l.set i x)
 | y :: l,0,x,_=>by
  have e:cellsOf enc (y :: l)=enc y++cellsOf enc l:=by simp [cellsOf]
  have e2:cellsOf enc (x :: l)=enc x++cellsOf enc l:=by simp [cellsOf]
  rw [e,Nat.zero_mul,setL_zero _ _ _ (by rw [hk,hk]),List.set_cons_zero,e2]
 | y :: l,i+1,x,h=>by
  have e:cellsOf enc (y :: l)=enc y++cellsOf enc l:=by simp [cellsOf]
  have e2:cellsOf enc (y :: l.set i x)=enc y++cellsOf enc (l.set i x):=by simp [cellsOf]
  rw [e,show (i+1) * k=(enc y).length+i * k by rw [hk,Nat.add_mul];omega,setL_append,setL_cells hk l i x (by simpa using h),List.set_cons_succ,e2]
theorem own_setCells {base size g n cap:Nat} {e:TypeId}:∀ (cs:List Value) (o:Nat) (w:World) (xs:List Value),w.ownsRow base e size (.slice (some ⟨g,0,none⟩) n cap) n xs →
  (w.setCells g o cs).ownsRow base e size (.slice (some ⟨g,0,none⟩) n cap) n (setL xs o cs)∧w.grownBy (w.setCells g o cs) (some g)
 | [],o,w,xs,h=>⟨h,World.grownBy.refl _ _⟩
 | v :: r,o,w,xs,h=>by
  obtain ⟨h1,g1⟩:=h.stored o v
  obtain ⟨h2,g2⟩:=own_setCells r (o+1) _ _ h1
  exact ⟨h2,⟨g2.os.trans g1.os,g2.tape.trans g1.tape,g2.output.trans g1.output,Nat.le_trans g1.size g2.size,fun q hq hn=>(g2.block q (Nat.lt_of_lt_of_le hq g1.size) hn).trans (g1.block q hq hn)⟩⟩
theorem grown_trans {w1 w2 w3:World} {r:Option Nat} (g1:w1.grownBy w2 r) (g2:w2.grownBy w3 r):w1.grownBy w3 r :=
 ⟨g2.os.trans g1.os,g2.tape.trans g1.tape,g2.output.trans g1.output,Nat.le_trans g1.size g2.size,fun q hq hn=>(g2.block q (Nat.lt_of_lt_of_le hq g1.size) hn).trans (g1.block q hq hn)⟩
theorem grown_of {w w':World} (h:Below w.heap.size w w') (row:Option Nat):w.grownBy w' row:=⟨h.os,h.tape,h.output,h.size,fun i hi _=>h.block i hi⟩
theorem idxI_in {α:Type} (xs:List α) (p:α→Bool):idxI xs p = -1∨(0≤idxI xs p∧idxI xs p<xs.length):=by
 unfold idxI
 cases h:xs.findIdx? p with
 | none=>exact .inl rfl
 | some i =>
  obtain ⟨h1,_⟩:=List.findIdx?_eq_some_iff_getElem.1 h
  exact .inr ⟨by simp only;omega,by simp only;omega⟩
theorem run_clear_any {P:Program} (w:World) (t e ty:TypeId) (z:Value) (ht:P.underlying t=some (.slice e)) (hv:∀ w,(zeroValue e).run P w=.ok z w) (b o n c:Nat) (hn:0<n) (L:List Value) (hL:(Builtin.zeroCells z.cells n).toList=L) (h1:∀ v ∈ L,v.oneCell'=true)
  (hc:∀ j,j<L.length→(w.cell? ⟨b,o+j,none⟩).isSome=true) (hf:∀ j,j<L.length→w.frozen? ⟨b,o+j,none⟩=false) :
  (Builtin.clear_ #[t] ty #[.slice (some ⟨b,o,none⟩) n c]).run P w=.ok (.tuple #[]) (w.setCells b o L):=by
 have hst:=run_storeCells_cells (P:=P) b o L 0 w (by simpa using hc) (by simpa using hf) h1
 simp only [Nat.add_zero] at hst
 obtain ⟨m,rfl⟩:∃ m,n=m+1:=⟨n - 1,by omega⟩
 simp [Builtin.clear_,run_underlying ht,hv,hL,hst]
def Dels (w:World) (g d:Nat) (lb:Array Value) (p:FtrM→Bool):Prop :=
 ∀ W:World,w.grownBy W (some g)→∀ x,Calls Tryz.prog d (#[.agg (encFtr x).toArray]++lb) W fun e w'=>e=.returned (.bool (p x))∧Below W.heap.size W w'
theorem own_there {w:World} {base size g n cap o n':Nat} {e:TypeId} {xs:List Value} (h:w.ownsRow base e size (.slice (some ⟨g,0,none⟩) n cap) n xs) (ho:o+n'≤n * size):w.there g o n':=fun j hj=>by
 refine ⟨?_,h.frozenAt _⟩
 rw [h.cellAt (o+j) (by omega)]
 have:=h.1
 rw [List.getElem?_eq_getElem (by omega)];rfl
def DelP (w:World) (g:Nat) (e:Ending) (w':World):Prop:=∃ a n c,e=.returned (.slice a n c)∧w.grownBy w' (some g)
theorem zeroFt (w:World):(zeroValue 49).run Tryz.prog w=.ok (.agg #[.int .i64 0,.int .i64 0,.int .i64 0,.int .i64 0,.slice none 0 0]) w:=by kernel_rfl
theorem zc_one (n:Nat):∀ v ∈ (Builtin.zeroCells (Value.agg #[.int .i64 0,.int .i64 0,.int .i64 0,.int .i64 0,.slice none 0 0]).cells n).toList,v.oneCell'=true:=fun v hv=>by
 simp only [Builtin.zeroCells,Array.toList_map,List.mem_map] at hv
 obtain ⟨i,_,rfl⟩:=hv
 have hm:i % 5<5:=Nat.mod_lt _ (by decide)
 show (#[Value.int .i64 0,.int .i64 0,.int .i64 0,.int .i64 0,.slice none 0 0][i % 5]!).oneCell'=true
 match i % 5,hm with
 | 0,_=>rfl
 | 1,_=>rfl
 | 2,_=>rfl
 | 3,_=>rfl
 | 4,_=>rfl
theorem zc_len (n:Nat):(Builtin.zeroCells (Value.agg #[.int .i64 0,.int .i64 0,.int .i64 0,.int .i64 0,.slice none 0 0]).cells n).toList.length=n * 5:=by
 simp [Builtin.zeroCells,Value.cells]
theorem del_any (g n c base:Nat) (L:List FtrM) (d:Nat) (lb:Array Value) (eg:Enters d) (p:FtrM→Bool) (w:World) (ho:w.ownsRow base 49 5 (.slice (some ⟨g,0,none⟩) n c) n (cellsOf encFtr L)) (hn:L.length=n) (hm:n≤60) (hc:Dels w g d lb p) :
  Calls Tryz.prog 136 #[.slice (some ⟨g,0,none⟩) n c,.func (.func d) #[] lb] w (DelP w g):=by
 have HIF:=hid (ifFt encFtr d lb eg (some ⟨g,0,none⟩) n c L p w (vw_of_own ho) hn (by omega) (fun x _=>encFtr_len x) fun W hW x _=>hc W (grown_of hW _) x)
 obtain ⟨a9,c9,e9,hcap,hcm,-⟩:=own_form ho
 simp only [Value.slice.injEq] at e9
 obtain ⟨-,-,rfl⟩:=e9
 have hi:=idxI_in L p
 obtain ⟨z,hz⟩:∃ z,idxI L p=z:=⟨_,rfl⟩
 rw [hz] at HIF hi
 rw [hn] at hi
 have HO:=hid ho;have HC:=hid hc;have HN:=hid hn
 unfold maxLen at hcm
 clear ho hc hz hn
 unfold Enters at eg
 by_cases hz1:z = -1
 ·subst hz1
  go_enter Tryz.func136,Tryz.ntmps136
  go_wp2_with (go_at_call 178;refine HIF.out.mono ?_;rintro e w1 ⟨rfl,hb1⟩)
  go_ret
  exact ⟨_,_,_,rfl,grown_of hb1 _⟩
 ·obtain ⟨i0,rfl⟩:∃ i0:Nat,z=i0:=⟨z.toNat,by omega⟩
  have bz:((i0:Int) == -1)=false:=by simp
  have hi0:i0<n:=by omega
  go_enter Tryz.func136,Tryz.ntmps136
  go_wp2_with (go_at_call 178;refine HIF.out.mono ?_;rintro e w1 ⟨rfl,hb1⟩;have HO1:=hid (own_keep HO.out hb1);have HG1:=hid (grown_of hb1 (some g));clear hb1)
  go_loopw [5,6] (fun vi vj wr=>∃ (i j:Nat) (L':List FtrM),vi=.int .i64 i∧vj=.int .i64 j∧i<j∧j≤n∧L'.length=n∧wr.ownsRow base 49 5 (.slice (some ⟨g,0,none⟩) n c) n (cellsOf encFtr L')∧w.grownBy wr (some g)) (fun _ vj _=>n - (intOf vj).toNat)
  case atStart=>exact ⟨i0,i0+1,L,rfl,by go_num,by omega,by omega,HN.out,HO1.out,HG1.out⟩
  case round =>
   obtain ⟨i,j,L',rfl,rfl,hij,hjn,hL',hown,hgr⟩:=hrel
   have OWN:=hid hown;have GR:=hid hgr;have HLL:=hid hL'
   have hgl:=hown.lt g rfl
   clear hown hgr hL' HO HO1 HG1
   by_cases hlt:j<n
   ·have hje:j<L'.length:=by rw [HLL.out];exact hlt
    obtain ⟨b,off,e,hbl,hrg⟩:=(vw_of_own OWN.out).range (k:=5) (fun x _=>encFtr_len x) (by omega) j hje
    cases e
    have HRG:=hid hrg
    have HSL:=hid (setL_cells encFtr_len L' i L'[j] (by omega))
    have HCC:=hid fun W (hW:Below wr.heap.size wr W)=>HC.out W (grown_trans GR.out (grown_of hW _)) L'[j]
    clear hrg
    obtain ⟨f,hf⟩:∃ f,L'[j]=f:=⟨_,rfl⟩
    rw [hf] at HRG HSL HCC
    clear hf
    obtain ⟨pb,hpb⟩:∃ pb,p f=pb:=⟨_,rfl⟩
    rw [hpb] at HCC
    clear hpb
    obtain ⟨nu,ki,si,ti,fa,fn,fc,fl⟩:=f
    dsimp only [encFtr] at HRG HSL HCC
    simp only [Nat.zero_add] at HRG
    cases pb with
    | true =>
     go_wp2_with (first
      | (refine wpList_load_mid rfl 49 (.tmp 24) rfl g (j * 5) rfl [.int .i64 nu,.int .i64 ki,.int .i64 si,.int .i64 ti,.slice fa fn fc] _ HRG.out Tryz.underlying49 rfl ftInfo ?_)
      | (refine st_new rfl 49 (.tmp 7) (.tmp 25) rfl #[.int .i64 nu,.int .i64 ki,.int .i64 si,.int .i64 ti,.slice fa fn fc] _ _ rfl rfl ftInfo rfl (ft_one _ _ _ _ _ _ _) ?_)
      | (refine wpList_load_row rfl 49 (.tmp 7) rfl wr.heap.size rfl _ #[.int .i64 nu,.int .i64 ki,.int .i64 si,.int .i64 ti,.slice fa fn fc] _ _ (Blk.new _ _ _) Tryz.underlying49 rfl ftInfo ?_)
      | (go_at_fn d;refine (HCC.out _ Bw.out).mono ?_;rintro e w2 ⟨rfl,hb2⟩;have hq2:Below wr.heap.size wr w2:=btr Bw.out hb2))
     go_roundw
     case rel=>exact ⟨i,j+1,L',rfl,by go_num,by omega,by omega,HLL.out,own_keep OWN.out hq2,grown_trans GR.out (grown_of hq2 _)⟩
     case measure=>simp [intOf];omega
    | false =>
     have j0:(0:Int)≤(i:Int):=by omega
     have j1:(i:Int)<(n:Int):=by omega
     go_wp2_with (first
      | (refine wpList_load_mid rfl 49 (.tmp 24) rfl g (j * 5) rfl [.int .i64 nu,.int .i64 ki,.int .i64 si,.int .i64 ti,.slice fa fn fc] _ HRG.out Tryz.underlying49 rfl ftInfo ?_)
      | (refine st_new rfl 49 (.tmp 7) (.tmp 25) rfl #[.int .i64 nu,.int .i64 ki,.int .i64 si,.int .i64 ti,.slice fa fn fc] _ _ rfl rfl ftInfo rfl (ft_one _ _ _ _ _ _ _) ?_)
      | (go_at_fn d;refine (HCC.out _ Bw.out).mono ?_;rintro e w2 ⟨rfl,hb2⟩;have hq2:Below wr.heap.size wr w2:=btr Bw.out hb2;have BX2:=hid ((Blk.new wr 49 #[.int .i64 nu,.int .i64 ki,.int .i64 si,.int .i64 ti,.slice fa fn fc]).below hb2);have O2:=hid (own_keep OWN.out hq2);have TH2:RowKit.Hid (w2.there g (i * 5) 5):=own_there O2.out (by omega))
      | (refine wpList_load_row rfl 49 (.tmp 7) rfl wr.heap.size rfl _ #[.int .i64 nu,.int .i64 ki,.int .i64 si,.int .i64 ti,.slice fa fn fc] _ _ (Blk.new _ _ _) Tryz.underlying49 rfl ftInfo ?_)
      | (refine wpList_load_row rfl 49 (.tmp 7) rfl wr.heap.size rfl _ #[.int .i64 nu,.int .i64 ki,.int .i64 si,.int .i64 ti,.slice fa fn fc] _ _ BX2.out Tryz.underlying49 rfl ftInfo ?_)
      | (refine wpList_store_mid rfl 49 (.tmp 33) (.tmp 32) rfl g (i * 5) #[.int .i64 nu,.int .i64 ki,.int .i64 si,.int .i64 ti,.slice fa fn fc] rfl rfl TH2.out ftInfo (ft_one _ _ _ _ _ _ _) ?_;obtain ⟨h5,g5⟩:=own_setCells (#[.int .i64 nu,.int .i64 ki,.int .i64 si,.int .i64 ti,.slice fa fn fc]:Array Value).toList (i * 5) _ _ O2.out;obtain ⟨W5,hW5⟩:∃ W5,w2.setCells g (i * 5) (#[.int .i64 nu,.int .i64 ki,.int .i64 si,.int .i64 ti,.slice fa fn fc]:Array Value).toList=W5:=⟨_,rfl⟩;rw [hW5] at h5 g5;rw [hW5];have H5:=hid h5;have G5:=hid g5;clear hW5 h5 g5))
     go_roundw
     case rel =>
      refine ⟨i+1,j+1,L'.set i ⟨nu,ki,si,ti,fa,fn,fc,fl⟩,by go_num,by go_num,by omega,by omega,by rw [List.length_set];exact HLL.out,?_,grown_trans (grown_trans GR.out (grown_of hq2 _)) G5.out⟩
      rw [← HSL.out]
      exact H5.out
     case measure=>simp [intOf];omega
   ·have hjn':j=n:=by omega
    subst hjn'
    have j0:(0:Int)≤(i:Int):=by omega
    have j1:(i:Int)≤(j:Int):=by omega
    have j2:(j:Int)≤(c:Int):=by omega
    have j3:(i:Int)≤(c:Int):=by omega
    have hck:¬ c=i:=by omega
    have hcl:∀ ty,(Builtin.clear_ #[34] ty #[.slice (some ⟨g,i * 5,none⟩) (j - i) (c - i)]).run Tryz.prog wr=.ok (.tuple #[]) (wr.setCells g (i * 5) (Builtin.zeroCells (Value.agg #[.int .i64 0,.int .i64 0,.int .i64 0,.int .i64 0,.slice none 0 0]).cells (j - i)).toList):=fun ty =>
     run_clear_any wr _ _ ty _ Tryz.underlying34 zeroFt g (i * 5) (j - i) (c - i) (by omega) _ rfl (zc_one _) (fun k hk=>(own_there OWN.out (n':=(j - i) * 5) (o:=i * 5) (by omega) k (by rw [zc_len] at hk;exact hk)).1) (fun k hk=>(own_there OWN.out (n':=(j - i) * 5) (o:=i * 5) (by omega) k (by rw [zc_len] at hk;exact hk)).2)
    obtain ⟨-,g5⟩:=own_setCells (Builtin.zeroCells (Value.agg #[.int .i64 0,.int .i64 0,.int .i64 0,.int .i64 0,.slice none 0 0]).cells (j - i)).toList (i * 5) _ _ OWN.out
    obtain ⟨W5,hW5⟩:∃ W5,wr.setCells g (i * 5) (Builtin.zeroCells (Value.agg #[.int .i64 0,.int .i64 0,.int .i64 0,.int .i64 0,.slice none 0 0]).cells (j - i)).toList=W5:=⟨_,rfl⟩
    simp only [hW5] at hcl
    rw [hW5] at g5
    have G5:=hid g5
    clear hW5 g5
    go_wp2
    go_ret
    exact ⟨_,_,_,rfl,grown_trans GR.out G5.out⟩
theorem on1_any (f:FtrM) (bd:Nat) (day:Int) (w:World) (hd:w.cell? ⟨bd,0,none⟩=some (.int .i64 day)) :
  Calls Tryz.prog 138 (#[.agg (encFtr f).toArray]++#[.pointer (some ⟨bd,0,none⟩)]) w fun e w'=>e=.returned (.bool (!decide (f.since≤day∧day<f.till)))∧Below w.heap.size w w':=by
 obtain ⟨nu,ki,si,ti,fa,fn,fc,fl⟩:=f
 have HT:=hid fun W=>there_any nu ki si ti day (.slice fa fn fc) rfl W
 have x0:(w.alloc (.cells #[.int .i64 nu,.int .i64 ki,.int .i64 si,.int .i64 ti,.slice fa fn fc] 49)).cell? ⟨bd,0,none⟩=some (.int .i64 day):=bc1 Bw.out hd
 dsimp only
 obtain ⟨v,hv⟩:∃ v,decide (si≤day∧day<ti)=v:=⟨_,rfl⟩
 rw [hv] at HT ⊢
 clear hd hv
 show Calls Tryz.prog 138 #[.agg #[.int .i64 nu,.int .i64 ki,.int .i64 si,.int .i64 ti,.slice fa fn fc],.pointer (some ⟨bd,0,none⟩)] w _
 go_enter Tryz.func138,Tryz.ntmps138
 go_wp2_with (first
  | (refine wpList_load_row rfl 49 (.tmp 2) rfl w.heap.size rfl _ #[.int .i64 nu,.int .i64 ki,.int .i64 si,.int .i64 ti,.slice fa fn fc] _ _ (Blk.new _ _ _) Tryz.underlying49 rfl ftInfo ?_)
  | (go_at_call 139;refine (HT.out _).mono ?_;rintro e w1 ⟨rfl,hb1⟩))
 go_ret
 exact ⟨rfl,btr Bw.out hb1⟩
theorem en_on1:Enters 138:=enters_of Tryz.func138 (by kernel_rfl) rfl
theorem del_nil (d:Nat) (lb:Array Value) (eg:Enters d) (p:FtrM→Bool) (w:World) :
  Calls Tryz.prog 136 #[.slice none 0 0,.func (.func d) #[] lb] w fun e w'=>e=.returned (.slice none 0 0)∧Below w.heap.size w w':=by
 have HIF:=hid (ifFt encFtr d lb eg none 0 0 [] p w (Vw.nil _ _) rfl (by omega) (fun x _=>encFtr_len x) fun W hW x hx=>by cases hx)
 have e:idxI ([]:List FtrM) p = -1:=rfl
 rw [e] at HIF
 clear e
 go_enter Tryz.func136,Tryz.ntmps136
 go_wp2_with (go_at_call 178;refine HIF.out.mono ?_;rintro e w1 ⟨rfl,hb1⟩)
 go_ret
 exact ⟨rfl,hb1⟩
def OnP (w:World) (l:List Ftr) (day:Int) (e:Ending) (w':World):Prop:=∃ (a:Option Addr) (n c:Nat) (x:Int),e=.returned (.tuple #[.slice a n c,.int .i64 x])∧FRight l day x∧Below w.heap.size w w'
theorem on_any (s:Sc FtrM) (day:Int) (w:World) (hR:Rws encFtr w s 60) (hr:∀ r ∈ s.l,ScOk2 w r.s) (hg:LGood (s.l.map FtrM.pl)) :
  Calls Tryz.prog 95 #[.slice s.a s.n s.c,.int .i64 day] w (OnP w (s.l.map FtrM.pl) day):=by
 obtain ⟨W,hW⟩:∃ W,w.alloc (.cells #[.int .i64 day] 3)=W:=⟨_,rfl⟩
 have BX:RowKit.Hid (Blk W w.heap.size 3 #[.int .i64 day]):=by show Blk _ _ _ _;rw [← hW];exact Blk.new w _ _
 have BB:RowKit.Hid (Below w.heap.size w W):=by show Below _ _ _;rw [← hW];exact Bw.out
 have x0:W.cell? ⟨w.heap.size,0,none⟩=some (.int .i64 day):=BX.out.cell 0
 have HRT:=hid (pfright_any s day W (hR.below BB.out) (fun r hr'=>(hr r hr').below BB.out) hg)
 have HAL:=hid fun W' (hW':Below W.heap.size W W')=>all_any s W' (hR.below (btr BB.out hW')) fun r hr'=>(hr r hr').below (btr BB.out hW')
 obtain ⟨a,n,c,l⟩:=s
 dsimp only at HRT HAL ⊢
 clear hR hr hg
 have HX:=hid BX.out
 by_cases hx9:∃ x:Int,x ≠ 0∧FRight (l.map FtrM.pl) day x
 ·obtain ⟨x,hx0,hxr⟩:=hx9
  have hu:∀ z,FRight (l.map FtrM.pl) day z→z=x:=fun z hz=>by
   by_cases hk:∃ f ∈ l.map FtrM.pl,kindOk f.kind=false
   ·rw [hz.1 hk,hxr.1 hk]
   ·have hall:∀ f ∈ l.map FtrM.pl,kindOk f.kind=true:=fun f hf=>by
     cases h:kindOk f.kind with
     | true=>rfl
     | false=>exact absurd ⟨f,hf,h⟩ hk
    rw [hz.2 hall,hxr.2 hall]
  have HU:=hid hu;have HXR:=hid hxr
  have bx:((x:Int) == 0)=false:=by simpa using hx0
  clear hu hxr hx0
  go_enter Tryz.func95,Tryz.ntmps95
  go_wp2_with (go_at_call 135;refine HRT.out.mono ?_;rintro e w1 ⟨z,rfl,hz,hb1⟩;obtain rfl:z=x:=HU.out z hz;clear hz)
  go_ret2
  exact ⟨none,0,0,_,rfl,HXR.out,btr BB.out hb1⟩
 ·have hu:∀ z,FRight (l.map FtrM.pl) day z→z=0:=fun z hz=>Classical.byContradiction fun hn=>hx9 ⟨z,hn,hz⟩
  have HU:=hid hu
  clear hu hx9
  go_enter Tryz.func95,Tryz.ntmps95
  go_wp2_with (first
   | (go_at_call 135;refine HRT.out.mono ?_;rintro e w1 ⟨z,rfl,hz,hb1⟩;have hz0:=HU.out z hz;subst hz0;have HZ:=hid hz;have HB1:=hid hb1;clear hz hb1)
   | (go_at_call 137;refine (HAL.out _ HB1.out).mono ?_;rintro e w2 ⟨v,L,rfl,ho2,hl2,hb2⟩;have HO2:=hid ho2;have HB2:=hid (btr HB1.out hb2);have HBX2:=hid (HX.out.below (btr HB1.out hb2));have HDEL:RowKit.Hid (Calls Tryz.prog 136 #[v,.func (.func 138) #[] #[.pointer (some ⟨w.heap.size,0,none⟩)]] w2 fun e w'=>∃ a n c,e=.returned (.slice a n c)∧Below w.heap.size w w'):=(by
     obtain ⟨a3,c3,rfl,-,-,hf⟩:=own_form HO2.out
     have hbw:Below w.heap.size w w2:=btr BB.out HB2.out
     rcases hf with ⟨rfl,h0,h1⟩ | ⟨g,rfl,hg1,hg2⟩
     ·rw [h0,h1]
      exact (del_nil _ _ en_on1 (fun _=>true) w2).mono fun e w' ⟨h1,h2⟩=>⟨none,0,0,h1,btr hbw h2⟩
     ·have hsz:w.heap.size<W.heap.size:=HX.out.lt
      have hsz1:W.heap.size≤w1.heap.size:=HB1.out.size
      refine (del_any g L.length c3 w1.heap.size L _ _ en_on1 (fun f=>!decide (f.since≤day∧day<f.till)) w2 HO2.out rfl hl2 fun W' hW' f=>on1_any f w.heap.size day W' ?_).mono fun e w' ⟨a,n,c,h1,h2⟩=>⟨a,n,c,h1,hbw.grown h2 hbw.size fun q hq=>by have:=Option.some.inj hq;omega⟩
      rw [World.cell?_of_block (w:=w2) (a:=⟨w.heap.size,0,none⟩) (hW'.block _ HBX2.out.lt fun e=>by have e2:w.heap.size=g:=Option.some.inj e;omega)]
      exact HBX2.out.cell 0);clear ho2 hb2)
   | (go_at_call 136;refine HDEL.out.mono ?_;rintro e w3 ⟨a3,n3,c3,rfl,hb3⟩))
  go_ret2
  exact ⟨a3,n3,c3,0,rfl,HZ.out,hb3⟩
end Go.Proofs.YtancajcelmhnkaaGreatDoor
