/- The statement TermHolds,out of the walk: the law answers true where its term is of bulk at most 2^20,and its arguments read as they did;and its tied card. -/
import Derived.Test.YtancajcelmhnkaaGreatDoorCards
import Derived.Test.YtancajcelmhnkaaGreatDoorTie
import Derived.Test.YtancajcelmhnkaaGreatDoorHold
import Derived.LaidMore
import Derived.Lay
import Derived.HandedShaped
import Derived.Deep.DeepHandedRow
set_option maxRecDepth 100000
namespace Go.Proofs.YtancajcelmhnkaaGreatDoor.termHolds
open Go.ChangeShapes Go.WideShapes Go.ChangeAt Go.RowKit Go.Joins
set_option linter.unusedVariables false
theorem own:ownKnob Tryz.prog.godebug=none:=by kernel_rfl
theorem lo:laidOutB Tryz.prog=true:=by kernel_rfl
theorem ct (H:Type) (enc:TypeId × Value→H) (W:World) (base:Nat) (args:Array Value) (ds gs:List (DataW H)) (bf:List MemPlace)
  (h8:∀ (j:Nat) t v,Tryz.f3.params[j]? = some t→args[j]? = some v→Value.okWide Tryz.prog W .any base t v)
  (hW:DataW.Whole enc Tryz.prog Tryz.f3.params.toList Rows.termHoldsSpec.vars false W args.toList ds gs bf) (hB:Rows.uptoSmall H (ds++gs)=true) :
  Calls Tryz.prog 3 args W fun e W'=>∃ v,e=.returned v∧Rows.termHoldsSpec.post enc Tryz.prog Tryz.f3 false true false false W args v W':=by
 have h9:=h8
 have hW':=hW
 obtain ⟨p,q,hA0,hV,rfl,hfz,hnd⟩:=hW
 have hA:DataW.TrodAll enc Tryz.prog W 0 (fun _=>true) true Tryz.f3.params.toList args.toList ds p:=hA0
 rw [Tryz.params3] at hA h9
 obtain ⟨v0,vs0,d0,ds0,p0,q0,ha,rfl,rfl,h0,r0⟩:=trodAll_cons hA
 obtain ⟨v1,vs1,d1,ds1,p1,q1,rfl,rfl,rfl,h1,r1⟩:=trodAll_cons r0
 obtain ⟨v2,vs2,d2,ds2,p2,q2,rfl,rfl,rfl,h2,r2⟩:=trodAll_cons r1
 obtain ⟨v3,vs3,d3,ds3,p3,q3,rfl,rfl,rfl,h3,r3⟩:=trodAll_cons r2
 obtain ⟨v4,vs4,d4,ds4,p4,q4,rfl,rfl,rfl,h4,r4⟩:=trodAll_cons r3
 obtain ⟨rfl,rfl,rfl⟩:=trodAll_nil r4
 obtain rfl:args=#[v0,v1,v2,v3,v4]:=by cases args;simp_all
 obtain ⟨rfl,rfl⟩:=trodVars_none hV
 have lt:∀ {t:TypeId} {v:Value} {d:DataW H} {ps:List MemPlace},DataW.Trod enc Tryz.prog W 0 (fun _=>true) true t v d ps→∀ x ∈ ps,x.block<W.heap.size:=fun k=>by
  obtain ⟨m,hm⟩:=k;exact DataW.trod_lt m _ _ _ hm
 obtain ⟨c0,rfl,-⟩:=okWide_struct Tryz.underlying24 (h9 0 24 v0 rfl rfl)
 obtain ⟨year,rfl⟩:=okWide_int Tryz.underlying3 (h9 1 3 v1 rfl rfl)
 obtain ⟨day,rfl⟩:=okWide_int Tryz.underlying3 (h9 2 3 v2 rfl rfl)
 obtain ⟨bye,rfl⟩:=okWide_int Tryz.underlying3 (h9 3 3 v3 rfl rfl)
 obtain ⟨a0,len0,cap0,rfl⟩:=okWide_slice Tryz.underlying25 (h9 4 25 v4 rfl rfl)
 have k0:=h0
 have k4:=h4
 obtain ⟨z0,w0⟩:∃ zs,IsRow .i64 W a0 len0 cap0 zs:=by
  obtain ⟨fuel,hf⟩:=h4
  rcases open_ints Tryz.underlying25 Tryz.underlying3 (by kernel_rfl) hf with ⟨hcs,_⟩ | ⟨x,l,c,zs,hcs,_,hl,hm,hz,_,hcell,hwz⟩
  ·simp [Value.cells] at hcs
   obtain ⟨rfl,rfl,rfl⟩:=hcs
   exact ⟨[],.inl ⟨rfl,rfl,rfl,rfl⟩⟩
  ·simp [Value.cells] at hcs
   obtain ⟨rfl,rfl,rfl⟩:=hcs
   exact ⟨zs,.inr ⟨_,rfl,hl,hm,by simpa using hz,hcell,hwz⟩⟩
 obtain ⟨t,hcs,ht,hz⟩:∃ t:TmM,c0=(encTm t).toArray∧TmOk W t∧t.pl.size≤2147483647:=by
  obtain ⟨fuel,hf⟩:=h0
  obtain ⟨t,hcs,ht,hz⟩:=open_term _ (Nat.le_refl _) hf
  have hb:Rows.uptoBulk d0≤1048576:=by
   have:=of_decide_eq_true hB
   simp only [List.cons_append,Rows.uptoBulkAll] at this
   omega
  refine ⟨t,?_,ht,by simp only at hz;omega⟩
  have e:c0.toList=encTm t:=by simpa [Value.cells] using hcs
  rw [← e]
 subst hcs
 clear hA0 h8 h9
 refine (holds_any t year day bye a0 len0 cap0 z0 W ht hz w0).mono fun e W' ⟨he,bel⟩=>?_
 subst he
 exact ⟨_,rfl,_,_,_,[],_,[],hW',trodAll_mk1 (shut_bool Tryz.underlying4 _),(trodAll_cons_mk (Below.trod lo (by kernel_rfl) (of_decide_eq_true (by kernel_rfl)) k0 bel (lt k0)) (trodAll_cons_mk (Below.trod lo (by kernel_rfl) (of_decide_eq_true (by kernel_rfl)) h1 bel (lt h1)) (trodAll_cons_mk (Below.trod lo (by kernel_rfl) (of_decide_eq_true (by kernel_rfl)) h2 bel (lt h2)) (trodAll_cons_mk (Below.trod lo (by kernel_rfl) (of_decide_eq_true (by kernel_rfl)) h3 bel (lt h3)) (trodAll_cons_mk (Below.trod lo (by kernel_rfl) (of_decide_eq_true (by kernel_rfl)) k4 bel (lt k4)) trodAll_mk0))))),rfl,bel.frame _,fun h=>by cases h⟩
theorem reads (os:Os) {H:Type} (enc:TypeId × Value→H):DataW.whole enc Tryz.prog ((World.laidAll Tryz.prog os Rows.termHoldsUptoRow.laid).forCall (fun _ _=>0) ⟨#[],#[.agg #[.int .i64 0,.int .i64 0,.int .i64 0,.slice none 0 0],.int .i64 0,.int .i64 0,.int .i64 0,.slice none 0 0],[]⟩).memory Tryz.f3.params.toList Rows.termHoldsSpec.vars false (#[.agg #[.int .i64 0,.int .i64 0,.int .i64 0,.slice none 0 0],.int .i64 0,.int .i64 0,.int .i64 0,.slice none 0 0]:Array Value).toList 8=some ([.agg [.lit (.int .i64 0),.lit (.int .i64 0),.lit (.int .i64 0),.nil],.lit (.int .i64 0),.lit (.int .i64 0),.lit (.int .i64 0),.nil],[],[]):=by kernel_rfl
theorem lf (os:Os) (st:os.Started) (H:Type) (enc:TypeId × Value→H) (F:Stop.Interp) :
  ReturnsInHanded {} Tryz.checked os 3 .any ((Rows.OpenSpec.upto Rows.termHoldsSpec).preRow enc Tryz.prog Tryz.f3 Rows.termHoldsUptoRow.domain false Rows.termHoldsUptoRow.laid) (((Rows.OpenSpec.upto Rows.termHoldsSpec).at F).post enc Tryz.prog Tryz.f3 false true false false):=by
 have hok:Input.okWideB Tryz.prog ((World.laidAll Tryz.prog os Rows.termHoldsUptoRow.laid).forCall (fun _ _=>0) ⟨#[],#[.agg #[.int .i64 0,.int .i64 0,.int .i64 0,.slice none 0 0],.int .i64 0,.int .i64 0,.int .i64 0,.slice none 0 0],[]⟩) 3 ⟨#[],#[.agg #[.int .i64 0,.int .i64 0,.int .i64 0,.slice none 0 0],.int .i64 0,.int .i64 0,.int .i64 0,.slice none 0 0],[]⟩=true:=by kernel_rfl
 refine returnsInHanded_of_row (C:=Tryz.checked) (s:=Rows.OpenSpec.upto Rows.termHoldsSpec) own st (by kernel_rfl) Tryz.func3
  ⟨World.laidAll Tryz.prog os Rows.termHoldsUptoRow.laid,fun _ _=>0,⟨#[],#[.agg #[.int .i64 0,.int .i64 0,.int .i64 0,.slice none 0 0],.int .i64 0,.int .i64 0,.int .i64 0,.slice none 0 0],[]⟩,World.laidAll_os _ _ _,World.shaped_of_ZipB (by kernel_rfl) (by kernel_rfl),(Input.okWide_of_okWideB (base:=0) hok).1,(Input.okWide_of_okWideB hok).2,
   OpenSpec.preRow_of_cond 8 (reads os enc) (by kernel_rfl) (fun k hk=>by cases hk;kernel_rfl) (by kernel_rfl) (by rw [MakeChecks.laidMetH_plain _ _ _ (by kernel_rfl)];exact laidMet_laidAll _ (by kernel_rfl) (by kernel_rfl)),by
   simp only [Assume.holds]
   exact ⟨by simp,by simp,fun _=>Modest.zero,by simp,by simp⟩⟩ ?_
 intro W base args ds gs bf h9 hW _ hcond _ hL _ _
 exact ct H enc W base args ds gs bf h9 hW (hcond _ rfl)
theorem lp (os:Os) (st:os.Started) (H:Type) (enc:TypeId × Value→H) (F:Stop.Interp) :
  ReturnsInHanded {} Tryz.checked os 3 .any (Rows.termHoldsUptoRow.pre enc Tryz.prog Tryz.f3 (Rows.OpenSpec.upto Rows.termHoldsSpec)) (((Rows.OpenSpec.upto Rows.termHoldsSpec).at F).post enc Tryz.prog Tryz.f3 false true false false):=by
 rw [OpenClaim.pre_eq_preRow]
 exact lf os st H enc F
theorem hn:Tryz.pinned.checked.prog.funcNamed Rows.termHoldsUptoRow.func=some 3:=by kernel_rfl
theorem hc:joinedFacts Tryz.pinned.checked.prog 3 Tryz.f3 (Rows.OpenSpec.upto Rows.termHoldsSpec).bare Rows.termHoldsUptoRow=true:=by kernel_rfl
theorem hi:Tryz.f3.isInstance Tryz.pinned.checked.prog Rows.termHoldsUptoRow.origin Rows.termHoldsUptoRow.targs:=of_decide_eq_true (by kernel_rfl)
theorem hq:Tryz.f3.isWrapper Tryz.pinned.checked.prog Rows.termHoldsUptoRow.wrapper Rows.termHoldsUptoRow.mainSum:=by
 unfold Func.isWrapper;first | (rw [if_pos (by decide +kernel)];kernel_rfl) | (rw [if_neg (by decide +kernel)];exact ⟨rfl,rfl⟩)
theorem hl (os:Os) (st:os.Started) (H:Type) (enc:TypeId × Value→H) (F:Stop.Interp) :
  ReturnsInHanded Rows.termHoldsUptoRow.assume Tryz.pinned.checked os 3 .any (Rows.termHoldsUptoRow.pre enc Tryz.pinned.checked.prog Tryz.f3 (Rows.OpenSpec.upto Rows.termHoldsSpec)) (((Rows.OpenSpec.upto Rows.termHoldsSpec).at F).post enc Tryz.pinned.checked.prog Tryz.f3 Rows.termHoldsUptoRow.apart Rows.termHoldsUptoRow.fresh Rows.termHoldsUptoRow.handsOn Rows.termHoldsUptoRow.again):=lp os st H enc F
theorem holds:Rows.TermHoldsUptoSaid :=
 OpenClaim.holds_of_cond 3 Tryz.f3 rfl rfl rfl rfl rfl rfl rfl ⟨rfl,rfl,rfl,rfl,rfl⟩ rfl rfl rfl rfl rfl hn Tryz.func3 hc hi hq
  (fun os st H enc _ F=>hl os st H enc F)
theorem proved:Rows.TermHoldsUptoCardSaid :=
 Claim7.holds_tied_plain_at .later [] [.data, .data, .data, .sentinel, .sentinel] true (true, "8cd369689c0c92864b45d0be6d29f494f2660f6abc233c9e406ec4d4b63f40d0") true holds (fun _ h => by cases h) (by kernel_rfl) (fun _ h => by cases h) termHoldsUpto_row_tie rfl ⟨rfl, rfl⟩ (by kernel_rfl) rfl
  (fun f fn hf hfn=>by
   obtain rfl : f = 3 := Option.some.inj ((show Tryz.prog.funcNamed "landaid/landaidlaw16.TermHolds" = some 3 by kernel_rfl).symm.trans hf) |>.symm
   obtain rfl:fn=Tryz.f3:=(Option.some.inj (Tryz.func3.symm.trans hfn)).symm
   exact ⟨by kernel_rfl,fun j t ht=>by
    rw [Tryz.params3] at ht
    have hm:t ∈ [24,3,3,3,25]:=by simpa using Array.mem_of_getElem? ht
    have hall:([24,3,3,3,25].all fun u=>!Tryz.prog.wantsStandIn u)=true:=by kernel_rfl
    exact (show Tryz.prog.wantsStandIn t=false by simpa using List.all_eq_true.1 hall t hm)⟩)
  (by kernel_rfl)
#print axioms proved
end Go.Proofs.YtancajcelmhnkaaGreatDoor.termHolds
