/- The statement TermAnswers,out of the walk: the law answers true where what it reads is of bulk at most 2^20,and its arguments read as they did;and its tied card. -/
import Derived.Test.YtancajcelmhnkaaGreatDoorCards
import Derived.Test.YtancajcelmhnkaaGreatDoorTie
import Derived.Test.YtancajcelmhnkaaGreatDoorLans
import Derived.LaidMore
import Derived.Lay
import Derived.HandedShaped
import Derived.Deep.DeepHandedRow
import Derived.Stop.LaidErr
set_option maxRecDepth 100000
namespace Go.Proofs.YtancajcelmhnkaaGreatDoor.termAnswers
open Go.ChangeShapes Go.WideShapes Go.ChangeAt Go.RowKit Go.Joins
set_option linter.unusedVariables false
theorem own:ownKnob Tryz.prog.godebug=none:=by kernel_rfl
theorem laidOut:laidOutB Tryz.prog=true:=by kernel_rfl
theorem sent_cell {n nm:String} {d:DataW Unit} {r:List (String × DataW Unit)} {W:World} {g:Nat} {ti:TypeId} {ms:Array (String × TypeId)} (h:laidMet Tryz.prog ((n,.iface nm d) :: r) W) (hg:Tryz.prog.globalNamed n=some g) (ht:(Tryz.prog.globals[g]?).map (·.type)=some ti) (hi:Tryz.prog.underlying ti=some (.interface ms)) :
  ∃ ev,W.cell? ⟨g,0,none⟩=some ev∧(ev=.nilIface∨∃ te pe,ev=.iface te pe):=by
 obtain ⟨ps,⟨g0,t0,cs0,f0,p0,q0,hg0,ht0,hv0,hd0,_,e0⟩,_,hrows⟩:=h
 obtain rfl:=Option.some.inj (hg.symm.trans hg0)
 obtain rfl:=Option.some.inj (ht.symm.trans ht0)
 obtain ⟨f1,u,v,hcs,hn,h1⟩:=iface_of_trod hi hd0
 refine ⟨.iface u v,?_,.inr ⟨u,v,rfl⟩⟩
 rw [World.var?_cell hg hv0 0]
 obtain ⟨l0⟩:=cs0
 simp only at hcs
 subst hcs
 rfl
theorem contract (H:Type) (enc:TypeId × Value→H) (W:World) (base:Nat) (args:Array Value) (ds gs:List (DataW H)) (before:List MemPlace)
  (hval0:∀ (j:Nat) t v,Tryz.f8.params[j]? = some t→args[j]? = some v→Value.okWide Tryz.prog W .any base t v)
  (hW:DataW.Whole enc Tryz.prog Tryz.f8.params.toList Rows.termAnswersSpec.vars false W args.toList ds gs before) (hB:Rows.uptoSmall H (ds++gs)=true) (hL:laidMet Tryz.prog Rows.termAnswersUptoRow.laid W) :
  Calls Tryz.prog 8 args W fun e W'=>∃ v,e=.returned v∧Rows.termAnswersSpec.post enc Tryz.prog Tryz.f8 false true false false W args v W':=by
 have hval:=hval0
 have hW':=hW
 obtain ⟨p,q,hA0,hV,rfl,hfz,hnd⟩:=hW
 have hA:DataW.TrodAll enc Tryz.prog W 0 (fun _=>true) true Tryz.f8.params.toList args.toList ds p:=hA0
 rw [Tryz.params8] at hA hval
 obtain ⟨v0,vs0,d0,ds0,p0,q0,hargs,rfl,rfl,h0,r0⟩:=trodAll_cons hA
 obtain ⟨v1,vs1,d1,ds1,p1,q1,rfl,rfl,rfl,h1,r1⟩:=trodAll_cons r0
 obtain ⟨v2,vs2,d2,ds2,p2,q2,rfl,rfl,rfl,h2,r2⟩:=trodAll_cons r1
 obtain ⟨v3,vs3,d3,ds3,p3,q3,rfl,rfl,rfl,h3,r3⟩:=trodAll_cons r2
 obtain ⟨rfl,rfl,rfl⟩:=trodAll_nil r3
 obtain rfl:args=#[v0,v1,v2,v3]:=by cases args;simp_all
 obtain ⟨rfl,rfl⟩:=trodVars_none hV
 have lt:∀ {t:TypeId} {v:Value} {d:DataW H} {ps:List MemPlace},DataW.Trod enc Tryz.prog W 0 (fun _=>true) true t v d ps→∀ x ∈ ps,x.block<W.heap.size:=fun k=>by
  obtain ⟨m,hm⟩:=k;exact DataW.trod_lt m _ _ _ hm
 obtain ⟨c0,rfl,-⟩:=okWide_struct Tryz.underlying24 (hval 0 24 v0 rfl rfl)
 have okW:=hval 1 75 v1 rfl rfl
 obtain ⟨wa,wn,wq,rfl⟩:=okWide_slice Tryz.underlying75 okW
 obtain ⟨bye,rfl⟩:=okWide_int Tryz.underlying3 (hval 2 3 v2 rfl rfl)
 obtain ⟨a0,len0,cap0,rfl⟩:=okWide_slice Tryz.underlying25 (hval 3 25 v3 rfl rfl)
 have k0:=h0
 have k1:=h1
 have k3:=h3
 obtain ⟨z0,w0⟩:∃ zs,IsRow .i64 W a0 len0 cap0 zs:=by
  obtain ⟨fuel,hf⟩:=h3
  rcases open_ints Tryz.underlying25 Tryz.underlying3 (by kernel_rfl) hf with ⟨hcs,_⟩ | ⟨x,l,c,zs,hcs,_,hl,hm,hz,_,hcell,hwz⟩
  ·simp [Value.cells] at hcs
   obtain ⟨rfl,rfl,rfl⟩:=hcs
   exact ⟨[],.inl ⟨rfl,rfl,rfl,rfl⟩⟩
  ·simp [Value.cells] at hcs
   obtain ⟨rfl,rfl,rfl⟩:=hcs
   exact ⟨zs,.inr ⟨_,rfl,hl,hm,by simpa using hz,hcell,hwz⟩⟩
 obtain ⟨ws,hws,hsp⟩:∃ ws,WsV W wa wn wq ws∧(wa=none∨∃ b off:Nat,wa=some ⟨b,off,none⟩):=by
  obtain ⟨fuel,hf⟩:=h1
  rcases open_strings Tryz.underlying75 Tryz.underlying9 (by kernel_rfl) hf with ⟨hcs,_⟩ | ⟨x,l,c,ss,hcs,_,hl,hm,hlen,_,hcell,_⟩
  ·simp [Value.cells] at hcs
   obtain ⟨rfl,rfl,rfl⟩:=hcs
   exact ⟨[],⟨fun i v hi=>by simp [strCells] at hi,rfl,Nat.le_refl _,Nat.zero_le _⟩,.inl rfl⟩
  ·simp [Value.cells] at hcs
   obtain ⟨rfl,rfl,rfl⟩:=hcs
   unfold Value.okWide at okW
   simp only [Tryz.underlying75] at okW
   unfold Cell.okWide at okW
   simp only [Tryz.underlying75] at okW
   unfold Cell.ok at okW
   simp only [Tryz.underlying75] at okW
   obtain ⟨_,_,_,hs,_⟩:=okW
   obtain ⟨b,off,sp⟩:=x
   simp only at hs
   subst hs
   have hlen':ss.length=wq:=by simpa using hlen
   refine ⟨ss.take wn,⟨fun i v hi=>⟨b,off,rfl,?_⟩,by rw [List.length_take];omega,hl,by unfold maxLen at hm;omega⟩,.inr ⟨b,off,rfl⟩⟩
   rw [strCells,List.map_take,List.getElem?_take] at hi
   split at hi
   ·rename_i hlt
    have:=hcell i (by omega)
    rw [List.getElem?_map,List.getElem?_eq_getElem (by omega)] at hi
    cases hi
    rw [List.getD_eq_getElem?_getD,List.getElem?_eq_getElem (by omega)] at this
    simp only [Option.getD_some] at this
    have ea:(⟨b,off,none⟩:Addr).add i=⟨b,off+i,none⟩:=by
     unfold Addr.add
     split
     ·rename_i e;subst e;rfl
     ·rfl
    rw [ea] at this
    exact this
   ·cases hi
 obtain ⟨t,hcs,ht,hz⟩:∃ t:TmM,c0=(encTm t).toArray∧TmOk W t∧t.pl.size≤2147483647:=by
  obtain ⟨fuel,hf⟩:=h0
  obtain ⟨t,hcs,ht,hz⟩:=open_term _ (Nat.le_refl _) hf
  have hb:Rows.uptoBulk d0≤1048576:=by
   have:=of_decide_eq_true hB
   simp only [List.cons_append,Rows.uptoBulkAll] at this
   omega
  refine ⟨t,?_,ht,by simp only at hz;omega⟩
  have e:c0.toList=encTm t:=by simpa [Value.cells] using hcs
  rw [← e]
 subst hcs
 clear hA0 hval0 hval
 have htab : Lib.TabIs Tryz.prog W "strings.asciiSpace" .u8 Lib.asciiSpaceTab :=
  Lib.tabIs_of_head (g:=0) (t:=127) (e:=5) (n:=256) (by kernel_rfl) (by kernel_rfl) (by kernel_rfl) (by kernel_rfl) (by kernel_rfl) (by kernel_rfl)
   (show laidMet Tryz.prog [("strings.asciiSpace", Lib.tabData .u8 Lib.asciiSpaceTab)] W from (show (Rows.laid_strings_asciiSpace : DataW Unit) = Lib.tabData .u8 Lib.asciiSpaceTab by kernel_rfl) ▸ (laidMet.tail (laidMet.tail (laidMet.tail (laidMet.tail (laidMet.tail (laidMet.tail hL)))))))
 have hN:NumW W:=⟨Lib.tabIs_of_head (g:=5) (t:=302) (e:=237) (n:=20) (by kernel_rfl) (by kernel_rfl) (by kernel_rfl) (by kernel_rfl) (by kernel_rfl) (by kernel_rfl)
   (show laidMet Tryz.prog (("internal/strconv.uint64pow10", Lib.tabData .u64 Lib.pow10Tab) :: _) W from (show (Rows.laid_internal_strconv_uint64pow10 : DataW Unit) = Lib.tabData .u64 Lib.pow10Tab by kernel_rfl) ▸ (laidMet.tail (laidMet.tail hL))),
  sent_cell (laidMet.tail (laidMet.tail (laidMet.tail (laidMet.tail hL)))) (by kernel_rfl) (by kernel_rfl) Tryz.underlying140,
  sent_cell (laidMet.tail (laidMet.tail (laidMet.tail hL))) (by kernel_rfl) (by kernel_rfl) Tryz.underlying140⟩
 refine (answers_any t wa wn wq ws bye a0 len0 cap0 z0 W ht hz hws hsp w0 hN htab).mono fun e W' ⟨he,bel⟩=>?_
 subst he
 exact ⟨_,rfl,_,_,_,[],_,[],hW',trodAll_mk1 (shut_bool Tryz.underlying4 _),(trodAll_cons_mk (Below.trod laidOut (by kernel_rfl) (of_decide_eq_true (by kernel_rfl)) k0 bel (lt k0)) (trodAll_cons_mk (Below.trod laidOut (by kernel_rfl) (of_decide_eq_true (by kernel_rfl)) k1 bel (lt k1)) (trodAll_cons_mk (Below.trod laidOut (by kernel_rfl) (of_decide_eq_true (by kernel_rfl)) h2 bel (lt h2)) (trodAll_cons_mk (Below.trod laidOut (by kernel_rfl) (of_decide_eq_true (by kernel_rfl)) k3 bel (lt k3)) trodAll_mk0)))),rfl,bel.frame _,fun h=>by cases h⟩
theorem reads (os:Os) {H:Type} (enc:TypeId × Value→H):DataW.whole enc Tryz.prog ((World.laidAll Tryz.prog os Rows.termAnswersUptoRow.laid).forCall (fun _ _=>0) ⟨#[],#[.agg #[.int .i64 0,.int .i64 0,.int .i64 0,.slice none 0 0],.slice none 0 0,.int .i64 0,.slice none 0 0],[]⟩).memory Tryz.f8.params.toList Rows.termAnswersSpec.vars false (#[.agg #[.int .i64 0,.int .i64 0,.int .i64 0,.slice none 0 0],.slice none 0 0,.int .i64 0,.slice none 0 0]:Array Value).toList 8=some ([.agg [.lit (.int .i64 0),.lit (.int .i64 0),.lit (.int .i64 0),.nil],.nil,.lit (.int .i64 0),.nil],[],[]):=by kernel_rfl
theorem lifted (os:Os) (started:os.Started) (H:Type) (enc:TypeId × Value→H) (F:Stop.Interp) :
  ReturnsInHanded {} Tryz.checked os 8 .any ((Rows.OpenSpec.upto Rows.termAnswersSpec).preRow enc Tryz.prog Tryz.f8 Rows.termAnswersUptoRow.domain false Rows.termAnswersUptoRow.laid) (((Rows.OpenSpec.upto Rows.termAnswersSpec).at F).post enc Tryz.prog Tryz.f8 false true false false):=by
 have hok:Input.okWideB Tryz.prog ((World.laidAll Tryz.prog os Rows.termAnswersUptoRow.laid).forCall (fun _ _=>0) ⟨#[],#[.agg #[.int .i64 0,.int .i64 0,.int .i64 0,.slice none 0 0],.slice none 0 0,.int .i64 0,.slice none 0 0],[]⟩) 8 ⟨#[],#[.agg #[.int .i64 0,.int .i64 0,.int .i64 0,.slice none 0 0],.slice none 0 0,.int .i64 0,.slice none 0 0],[]⟩=true:=by kernel_rfl
 refine returnsInHanded_of_row (C:=Tryz.checked) (s:=Rows.OpenSpec.upto Rows.termAnswersSpec) own started (by kernel_rfl) Tryz.func8
  ⟨World.laidAll Tryz.prog os Rows.termAnswersUptoRow.laid,fun _ _=>0,⟨#[],#[.agg #[.int .i64 0,.int .i64 0,.int .i64 0,.slice none 0 0],.slice none 0 0,.int .i64 0,.slice none 0 0],[]⟩,World.laidAll_os _ _ _,World.shaped_of_ZipB (by kernel_rfl) (by kernel_rfl),(Input.okWide_of_okWideB (base:=0) hok).1,(Input.okWide_of_okWideB hok).2,
   OpenSpec.preRow_of_cond 8 (reads os enc) (by kernel_rfl) (fun k hk=>by cases hk;kernel_rfl) (by kernel_rfl) (by rw [MakeChecks.laidMetH_plain _ _ _ (by kernel_rfl)];exact laidMet_laidAll _ (by kernel_rfl) (by kernel_rfl)),by
   simp only [Assume.holds]
   exact ⟨by simp,by simp,fun _=>Modest.zero,by simp,by simp⟩⟩ ?_
 intro W base args ds gs before hval hW _ hcond _ hL _ _
 exact contract H enc W base args ds gs before hval hW (hcond _ rfl) (by rwa [MakeChecks.laidMetH_plain _ _ _ (by kernel_rfl)] at hL)
theorem liftedPre (os:Os) (started:os.Started) (H:Type) (enc:TypeId × Value→H) (F:Stop.Interp) :
  ReturnsInHanded {} Tryz.checked os 8 .any (Rows.termAnswersUptoRow.pre enc Tryz.prog Tryz.f8 (Rows.OpenSpec.upto Rows.termAnswersSpec)) (((Rows.OpenSpec.upto Rows.termAnswersSpec).at F).post enc Tryz.prog Tryz.f8 false true false false):=by
 rw [OpenClaim.pre_eq_preRow]
 exact lifted os started H enc F
theorem hname:Tryz.pinned.checked.prog.funcNamed Rows.termAnswersUptoRow.func=some 8:=by kernel_rfl
theorem hclosed:joinedFacts Tryz.pinned.checked.prog 8 Tryz.f8 (Rows.OpenSpec.upto Rows.termAnswersSpec).bare Rows.termAnswersUptoRow=true:=by kernel_rfl
theorem hinst:Tryz.f8.isInstance Tryz.pinned.checked.prog Rows.termAnswersUptoRow.origin Rows.termAnswersUptoRow.targs:=of_decide_eq_true (by kernel_rfl)
theorem hwrap:Tryz.f8.isWrapper Tryz.pinned.checked.prog Rows.termAnswersUptoRow.wrapper Rows.termAnswersUptoRow.mainSum:=by
 unfold Func.isWrapper;first | (rw [if_pos (by decide +kernel)];kernel_rfl) | (rw [if_neg (by decide +kernel)];exact ⟨rfl,rfl⟩)
theorem hlift (os:Os) (started:os.Started) (H:Type) (enc:TypeId × Value→H) (F:Stop.Interp) :
  ReturnsInHanded Rows.termAnswersUptoRow.assume Tryz.pinned.checked os 8 .any (Rows.termAnswersUptoRow.pre enc Tryz.pinned.checked.prog Tryz.f8 (Rows.OpenSpec.upto Rows.termAnswersSpec)) (((Rows.OpenSpec.upto Rows.termAnswersSpec).at F).post enc Tryz.pinned.checked.prog Tryz.f8 Rows.termAnswersUptoRow.apart Rows.termAnswersUptoRow.fresh Rows.termAnswersUptoRow.handsOn Rows.termAnswersUptoRow.again):=liftedPre os started H enc F
theorem holds:Rows.TermAnswersUptoSaid :=
 OpenClaim.holds_of_cond 8 Tryz.f8 rfl rfl rfl rfl rfl rfl rfl ⟨rfl,rfl,rfl,rfl,rfl⟩ rfl rfl rfl rfl rfl hname Tryz.func8 hclosed hinst hwrap
  (fun os started H enc _ F=>hlift os started H enc F)
theorem proved:Rows.TermAnswersUptoCardSaid :=
 Claim7.holds_tied_plain_at .later [] [.data, .data, .data, .sentinel, .sentinel, .listed, .data] true (true, "8cd369689c0c92864b45d0be6d29f494f2660f6abc233c9e406ec4d4b63f40d0") true holds (fun _ h => by cases h) (by kernel_rfl) (fun _ h => by cases h) termAnswersUpto_row_tie rfl ⟨rfl, rfl⟩ (by kernel_rfl) rfl
  (fun f fn hf hfn=>by
   obtain rfl : f = 8 := Option.some.inj ((show Tryz.prog.funcNamed "landaid/landaidlaw16.TermAnswers" = some 8 by kernel_rfl).symm.trans hf) |>.symm
   obtain rfl:fn=Tryz.f8:=(Option.some.inj (Tryz.func8.symm.trans hfn)).symm
   exact ⟨by kernel_rfl,fun j t ht=>by
    rw [Tryz.params8] at ht
    have hm:t ∈ [24,75,3,25]:=by simpa using Array.mem_of_getElem? ht
    have hall:([24,75,3,25].all fun u=>!Tryz.prog.wantsStandIn u)=true:=by kernel_rfl
    exact (show Tryz.prog.wantsStandIn t=false by simpa using List.all_eq_true.1 hall t hm)⟩)
  (by kernel_rfl)
#print axioms proved
end Go.Proofs.YtancajcelmhnkaaGreatDoor.termAnswers
