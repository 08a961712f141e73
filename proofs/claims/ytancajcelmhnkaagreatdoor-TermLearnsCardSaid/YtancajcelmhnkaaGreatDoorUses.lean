/- law16.usesKnown. -/
import Derived.Test.YtancajcelmhnkaaGreatDoorGm
import Derived.Test.YtancajcelmhnkaaGreatDoorCf
namespace Go.Proofs.YtancajcelmhnkaaGreatDoor
open Go.RowKit Go.Sort Go.Shelf
set_option linter.unusedVariables false
set_option linter.unusedSimpArgs false
theorem us_one (op num more : Int) (a : Option Addr) (n c : Nat) : (#[.int .i64 op,.int .i64 num,.int .i64 more,.slice a n c] : Array Value).all (·.oneCell') = true:=by
  rw [List.all_toArray];rfl
set_option maxRecDepth 100000 in
set_option maxHeartbeats 2000000 in
theorem uses_any (t : TmM) : ∀ (w : World),TmOk w t→Calls Tryz.prog 33 #[.agg (encTm t).toArray] w (Says w t.pl.Asks):=by
  induction t using TmM.ind with
  | h op num more a n c kids ih =>
    intro w h
    rw [TmM.pl_mk]
    show Calls Tryz.prog _ #[.agg #[.int .i64 op,.int .i64 num,.int .i64 more,.slice a n c]] w _
    have H:=Lib.hid h;have IH:=Lib.hid ih
    have HN:=Lib.hid h.len
    have hc:=h.few
    obtain ⟨W,hW⟩ : ∃ W,w.alloc (.cells #[.int .i64 op,.int .i64 num,.int .i64 more,.slice a n c] 24) = W:=⟨_,rfl⟩
    have B0 : RowKit.Hid (Blk W w.heap.size 24 #[.int .i64 op,.int .i64 num,.int .i64 more,.slice a n c]):=by show Blk _ _ _ _;rw [← hW];exact Blk.new w _ _
    have BB : RowKit.Hid (Below w.heap.size w W):=by show Below _ _ _;rw [← hW];exact (by (repeat (with_reducible first | exact Below.refl _ _ | refine bdr ?_ | refine bdn ?_ _ | refine bal ?_ _)))
    have x0 : W.cell? ⟨w.heap.size,0,none⟩ = some (.int .i64 op):=B0.out.cell 0
    have x3 : W.cell? ⟨w.heap.size,3,none⟩ = some (.slice a n c):=B0.out.cell 3
    have y0:=B0.out.lt
    clear h ih
    by_cases h8 : op = 8
    · subst h8
      go_enter Tryz.func33,Tryz.ntmps33
      go_wp2
      go_ret
      exact ⟨true,rfl,⟨fun _=>.here _ _ _,fun _=>rfl⟩,BB.out⟩
    · have b8 : ((op : Int) == 8) = false:=by simpa using h8
      have H8:=Lib.hid h8
      clear h8
      go_enter Tryz.func33,Tryz.ntmps33
      go_wp2
      go_loopw [11] (fun i wr=>∃ k : Nat,k≤n∧i = .int .i64 k∧(∀ j (hj : j < kids.length),j < k→¬ kids[j].pl.Asks)∧Below W.heap.size W wr) (fun i _=>n - (intOf i).toNat)
      case atStart=>exact ⟨0,Nat.zero_le _,rfl,(fun j _ h=>absurd h (Nat.not_lt_zero j)),Below.refl _ _⟩
      case round =>
        obtain ⟨k,hk,rfl,hno,hb⟩:=hrel
        have HB:=Lib.hid hb;have HNO:=Lib.hid hno
        have yb:=hb.size
        clear hb hno
        by_cases hlt : k < n
        · have hke : k < kids.length:=by rw [HN.out];exact hlt
          obtain ⟨b,off,rfl,hbl,hrg⟩:=H.out.at_ hke
          have HRG:=Lib.hid (rangeAt_below hrg (btr BB.out HB.out))
          have HIH:=Lib.hid fun W' (hW' : Below wr.heap.size wr W')=>IH.out _ (List.getElem_mem hke) W' ((H.out.kid (List.getElem_mem hke)).beh (btr (btr BB.out HB.out) hW'))
          have HEX : RowKit.Hid (kids[k].pl.Asks→Tm.Asks (.mk op num more (kids.map TmM.pl))):=fun q=>.kid _ _ _ _ _ (List.mem_map.2 ⟨_,List.getElem_mem hke,rfl⟩) q
          have HST : RowKit.Hid (¬ kids[k].pl.Asks→∀ j (hj : j < kids.length),j < k + 1→¬ kids[j].pl.Asks):=fun q j hj hjk=>by
            by_cases e : j = k
            · subst e;exact q
            · exact HNO.out j hj (by omega)
          clear hrg
          obtain ⟨kt,hkt⟩ : ∃ kt,kids[k] = kt:=⟨_,rfl⟩
          rw [hkt] at HRG HIH HEX HST
          clear hkt
          obtain ⟨op',num',more',a',n',c',kids'⟩:=kt
          dsimp only [encTm] at HRG HIH
          obtain ⟨A,hA⟩ : ∃ A,(TmM.mk op' num' more' a' n' c' kids').pl.Asks = A:=⟨_,rfl⟩
          rw [hA] at HIH HEX HST
          clear hA
          by_cases hAk : A
          · go_wp2_with (first
              | (refine wpList_load_mid rfl 24 (.tmp 13) rfl b (off + k * 4) rfl [.int .i64 op',.int .i64 num',.int .i64 more',.slice a' n' c'] _ HRG.out Tryz.underlying24 rfl tmInfo ?_)
              | (refine st_new rfl 24 (.tmp 4) (.tmp 14) rfl #[.int .i64 op',.int .i64 num',.int .i64 more',.slice a' n' c'] _ _ rfl rfl tmInfo rfl (us_one _ _ _ _ _ _) ?_)
              | (refine wpList_load_row rfl 24 (.tmp 4) rfl wr.heap.size rfl _ #[.int .i64 op',.int .i64 num',.int .i64 more',.slice a' n' c'] _ _ (Blk.new _ _ _) Tryz.underlying24 rfl tmInfo ?_)
              | (go_at_call 33;refine (HIH.out _ (by (repeat (with_reducible first | exact Below.refl _ _ | refine bdr ?_ | refine bdn ?_ _ | refine bal ?_ _)))).mono ?_;rintro e w2 ⟨v,rfl,hv,hb2⟩;obtain rfl : v = true:=hv.2 hAk;clear hv;have Q2 : RowKit.Hid (Below wr.heap.size wr w2):=btr (by (repeat (with_reducible first | exact Below.refl _ _ | refine bdr ?_ | refine bdn ?_ _ | refine bal ?_ _))) hb2;clear hb2))
            go_ret
            exact ⟨true,rfl,⟨fun _=>HEX.out hAk,fun _=>rfl⟩,btr (btr BB.out HB.out) Q2.out⟩
          · go_wp2_with (first
              | (refine wpList_load_mid rfl 24 (.tmp 13) rfl b (off + k * 4) rfl [.int .i64 op',.int .i64 num',.int .i64 more',.slice a' n' c'] _ HRG.out Tryz.underlying24 rfl tmInfo ?_)
              | (refine st_new rfl 24 (.tmp 4) (.tmp 14) rfl #[.int .i64 op',.int .i64 num',.int .i64 more',.slice a' n' c'] _ _ rfl rfl tmInfo rfl (us_one _ _ _ _ _ _) ?_)
              | (refine wpList_load_row rfl 24 (.tmp 4) rfl wr.heap.size rfl _ #[.int .i64 op',.int .i64 num',.int .i64 more',.slice a' n' c'] _ _ (Blk.new _ _ _) Tryz.underlying24 rfl tmInfo ?_)
              | (go_at_call 33;refine (HIH.out _ (by (repeat (with_reducible first | exact Below.refl _ _ | refine bdr ?_ | refine bdn ?_ _ | refine bal ?_ _)))).mono ?_;rintro e w2 ⟨v,rfl,hv,hb2⟩;obtain rfl : v = false:=(by cases v with | true=>exact absurd (hv.1 rfl) hAk | false=>rfl);clear hv;have Q2 : RowKit.Hid (Below wr.heap.size wr w2):=btr (by (repeat (with_reducible first | exact Below.refl _ _ | refine bdr ?_ | refine bdn ?_ _ | refine bal ?_ _))) hb2;clear hb2))
            go_roundw
            case rel=>exact ⟨k + 1,by omega,by go_num,HST.out hAk,btr HB.out Q2.out⟩
            case measure=>simp [intOf];omega
        · obtain rfl : k = n:=by omega
          go_wp2
          go_ret
          refine ⟨false,rfl,⟨(fun h=>by cases h),fun h=>?_⟩,btr BB.out HB.out⟩
          cases h with
          | here=>exact absurd rfl H8.out
          | kid _ _ _ _ q hq hqa =>
            obtain ⟨t,ht,rfl⟩:=List.mem_map.1 hq
            obtain ⟨j,hj,rfl⟩:=List.getElem_of_mem ht
            exact absurd hqa (HNO.out j hj (by rw [HN.out] at hj;exact hj))
end Go.Proofs.YtancajcelmhnkaaGreatDoor
